/- Lemmas for a claim: an abstract machine for the translated code, proved sound, and contracts of functions. By an AI agent. -/
import Derived.Orders
import Derived.Below
import Derived.KernelRfl
import Derived.OwnWalk
import Derived.IntWalk
import Derived.Laws.IdiomCopy
set_option linter.all false
namespace RV
open Go
def fnan : Nat := 0x7ff8000000000001
def fcanon (b : Nat) : Nat := if (Ieee.double.read b).isNaN then fnan else b
inductive D where
  | bool (b : Bool)
  | int (k : IntKind) (n : Int)
  | flt (x : Nat)
  | ints (k : IntKind) (xs : List Int)
  | flts (xs : List Nat)
  | recs (sz : Nat) (xs : List (List D))
  | ptr (cs : List D)
  | agg (cs : List D)
  | tup (ds : List D)
  | fn (f : Nat) (fst cap : List D)
  | nilfn
  | nilp
  deriving Inhabited
abbrev Mem := Addr → Option Value
def cellAt (b o : Nat) : Addr := ⟨b, o, none⟩
def RepInts (rd : Mem) (k : IntKind) (b : Nat) : Nat → List Int → Prop
  | _, [] => True
  | o, x :: xs => rd (cellAt b o) = some (.int k x) ∧ RepInts rd k b (o + 1) xs
def RepFlts (rd : Mem) (b : Nat) : Nat → List Nat → Prop
  | _, [] => True
  | o, x :: xs => (∃ y, rd (cellAt b o) = some (.float .f64 y) ∧ fcanon y = x) ∧ RepFlts rd b (o + 1) xs
mutual
def Rep (rd : Mem) : D → Value → Prop
  | .bool b, v => v = .bool b
  | .int k n, v => v = .int k n
  | .flt x, v => ∃ y, v = .float .f64 y ∧ fcanon y = x
  | .ints k xs, v => ∃ A cap, v = .slice A xs.length cap ∧ xs.length ≤ cap ∧ (xs = [] ∨ ∃ b o, A = some (cellAt b o) ∧ RepInts rd k b o xs)
  | .flts xs, v => ∃ A cap, v = .slice A xs.length cap ∧ xs.length ≤ cap ∧ (xs = [] ∨ ∃ b o, A = some (cellAt b o) ∧ RepFlts rd b o xs)
  | .recs sz xs, v => ∃ A cap, v = .slice A xs.length cap ∧ xs.length ≤ cap ∧ (xs = [] ∨ ∃ b o, A = some (cellAt b o) ∧ RepRows rd b sz o xs)
  | .ptr cs, v => ∃ b o, v = .pointer (some (cellAt b o)) ∧ RepAt rd b o cs
  | .agg cs, v => ∃ vs, v = .agg vs ∧ RepL rd cs vs.toList
  | .tup ds, v => ∃ vs, v = .tuple vs ∧ RepL rd ds vs.toList
  | .fn f fst cap, v => ∃ vf vc, v = .func (.func f) vf vc ∧ RepL rd fst vf.toList ∧ RepL rd cap vc.toList
  | .nilfn, v => v = .nilFunc
  | .nilp, v => v = .pointer none
def RepL (rd : Mem) : List D → List Value → Prop
  | [], vs => vs = []
  | d :: ds, vs => ∃ v us, vs = v :: us ∧ Rep rd d v ∧ RepL rd ds us
def RepAt (rd : Mem) (b : Nat) : Nat → List D → Prop
  | _, [] => True
  | o, d :: ds => (∃ v, rd (cellAt b o) = some v ∧ Rep rd d v) ∧ RepAt rd b (o + 1) ds
def RepRows (rd : Mem) (b sz : Nat) : Nat → List (List D) → Prop
  | _, [] => True
  | o, r :: rs => r.length = sz ∧ RepAt rd b o r ∧ RepRows rd b sz (o + sz) rs
end
def MemLe (r r' : Mem) : Prop := ∀ a v, r a = some v → r' a = some v
theorem MemLe.refl (r : Mem) : MemLe r r := fun _ _ h => h
theorem MemLe.trans {a b c : Mem} (h : MemLe a b) (k : MemLe b c) : MemLe a c := fun x v hx => k x v (h x v hx)
theorem RepInts.mono {r r' : Mem} (h : MemLe r r') {k b} : ∀ {o xs}, RepInts r k b o xs → RepInts r' k b o xs
  | _, [], _ => trivial
  | _, _ :: _, ⟨h1, h2⟩ => ⟨h _ _ h1, RepInts.mono h h2⟩
theorem RepFlts.mono {r r' : Mem} (h : MemLe r r') {b} : ∀ {o xs}, RepFlts r b o xs → RepFlts r' b o xs
  | _, [], _ => trivial
  | _, _ :: _, ⟨⟨y, h1, e⟩, h2⟩ => ⟨⟨y, h _ _ h1, e⟩, RepFlts.mono h h2⟩
mutual
theorem Rep.mono {r r' : Mem} (h : MemLe r r') : ∀ (d : D) (v : Value), Rep r d v → Rep r' d v
  | .bool _, _, H => by simpa only [Rep] using H
  | .int _ _, _, H => by simpa only [Rep] using H
  | .flt _, _, H => by simpa only [Rep] using H
  | .ints _ _, _, H => by
    simp only [Rep] at *
    obtain ⟨A, c, e, l, H⟩ := H
    exact ⟨A, c, e, l, H.imp id fun ⟨b, o, e, H⟩ => ⟨b, o, e, H.mono h⟩⟩
  | .flts _, _, H => by
    simp only [Rep] at *
    obtain ⟨A, c, e, l, H⟩ := H
    exact ⟨A, c, e, l, H.imp id fun ⟨b, o, e, H⟩ => ⟨b, o, e, H.mono h⟩⟩
  | .recs sz xs, _, H => by
    simp only [Rep] at *
    obtain ⟨A, c, e, l, H⟩ := H
    exact ⟨A, c, e, l, H.imp id fun ⟨b, o, e, H⟩ => ⟨b, o, e, RepRows.mono h xs o H⟩⟩
  | .ptr cs, _, H => by
    simp only [Rep] at *
    obtain ⟨b, o, e, H⟩ := H
    exact ⟨b, o, e, RepAt.mono h cs o H⟩
  | .agg cs, _, H => by
    simp only [Rep] at *
    obtain ⟨vs, e, H⟩ := H
    exact ⟨vs, e, RepL.mono h cs _ H⟩
  | .tup cs, _, H => by
    simp only [Rep] at *
    obtain ⟨vs, e, H⟩ := H
    exact ⟨vs, e, RepL.mono h cs _ H⟩
  | .fn _ a b, _, H => by
    simp only [Rep] at *
    obtain ⟨vf, vc, e, H, H'⟩ := H
    exact ⟨vf, vc, e, RepL.mono h a _ H, RepL.mono h b _ H'⟩
  | .nilfn, _, H => by simpa only [Rep] using H
  | .nilp, _, H => by simpa only [Rep] using H
theorem RepL.mono {r r' : Mem} (h : MemLe r r') : ∀ (ds : List D) (vs : List Value), RepL r ds vs → RepL r' ds vs
  | [], _, H => by simpa only [RepL] using H
  | d :: ds, _, H => by
    simp only [RepL] at *
    obtain ⟨v, us, e, h1, h2⟩ := H
    exact ⟨v, us, e, Rep.mono h d v h1, RepL.mono h ds us h2⟩
theorem RepAt.mono {r r' : Mem} (h : MemLe r r') {b : Nat} : ∀ (ds : List D) (o : Nat), RepAt r b o ds → RepAt r' b o ds
  | [], _, _ => by simp only [RepAt]
  | d :: ds, o, H => by
    simp only [RepAt] at *
    obtain ⟨⟨v, e, h1⟩, h2⟩ := H
    exact ⟨⟨v, h _ _ e, Rep.mono h d v h1⟩, RepAt.mono h ds _ h2⟩
theorem RepRows.mono {r r' : Mem} (h : MemLe r r') {b sz : Nat} : ∀ (rs : List (List D)) (o : Nat), RepRows r b sz o rs → RepRows r' b sz o rs
  | [], _, _ => by simp only [RepRows]
  | d :: ds, o, H => by
    simp only [RepRows] at *
    exact ⟨H.1, RepAt.mono h d o H.2.1, RepRows.mono h ds _ H.2.2⟩
end
inductive LV where
  | t (n : Nat)
  | c (d : D)
  deriving Inhabited
inductive AV where
  | d (x : D)
  | agg (cs : List AV)
  | box (i off : Nat)
  | own (i lo n : Nat)
  | elt (i j off : Nat)
  | clo (f : Nat) (fst cap : List AV)
  | yld (l : Nat)
  | und
  | any
  deriving Inhabited
inductive EK where
  | ints (k : IntKind)
  | flts
  | recs (sz : Nat)
def EK.sz : EK → Nat
  | .recs sz => sz
  | _ => 1
inductive BC where
  | cells (cs : List AV)
  | ints (k : IntKind) (xs : List Int)
  | flts (xs : List Nat)
  | recs (sz : Nat) (xs : List (List D))
structure Bx where
  fz : Bool
  ext : Bool
  c : BC
structure St where
  tm : Nat → AV
  bx : Nat → Option Bx
inductive LOp where
  | mv (x : LV)
  | pick (c a b : LV)
  | load (n : Nat) (g : Bool) (x : LV)
  | nilck (x : LV)
  | bin (op : BinOp) (x y : LV)
  | binb (ne : Bool) (x y : LV)
  | un (op : UnOp) (x : LV)
  | conv (k : IntKind) (x : LV)
  | convF (x : LV)
  | faddr (off : Nat) (x : LV)
  | fld (off n : Nat) (g : Bool) (x : LV)
  | iaddr (sz : Nat) (x i : LV)
  | aaddr (len sz : Nat) (x i : LV)
  | idx (len n : Nat) (g : Bool) (x i : LV)
  | extr (i : Nat) (x : LV)
  | len (x : LV)
  | mx (x y : LV)
  | mn (x y : LV)
  | slc (sz : Nat) (x : LV) (lo hi : Option LV)
  | build (zero : List D) (parts : List (Nat × Nat × LV))
  | bsl (ek : EK) (parts : List LV)
  | mkfn (f : Nat) (fst cap : List LV)
  | call (f : Nat) (args : List LV)
  | callv (x : LV) (args : List LV)
  | alloc (zero : List D)
  | box (x : LV)
  | mks (ek : EK) (zero : List D) (len : LV)
  | nil (ek : EK)
  | store (n : Nat) (a x : LV)
  | app (ek : EK) (x y : LV)
  | copy (ek : EK) (x y : LV)
  | isnil (x : LV)
  | bad
structure LO where
  dst : Option Nat
  op : LOp
  guard : Option (Nat × Bool)
inductive LC where
  | skip
  | reg (ops : List LO)
  | dreg (pre : List (LO × List Nat)) (suf : List LO)
  | seq (a b : LC)
  | cond (c : LV) (a b : LC)
  | block (id : Nat) (a : LC)
  | loop (a : LC)
  | exit (id : Nat)
  | ret
inductive LR where
  | tmp (t : Nat)
  | cell (t n : Nat) (g : Bool)
structure Ct where
  pre : List D → Prop
  res : List D → D
  own : Bool := false
structure Cm where
  pre : List AV → List BC → Prop
  res : List AV → List BC → D
  out : List AV → List BC → List BC
structure Env where
  fn : Nat → Option Ct
  mt : Nat → Option Cm
def inR (z : Int) : Prop := -9223372036854775808 ≤ z ∧ z ≤ 9223372036854775807
def arith (k : IntKind) (z : Int) (K : AV → Prop) : Prop :=
  match k with
  | .i64 => inR z ∧ K (.d (.int .i64 z))
  | k => K (.d (.int k (k.wrap z)))
def iand (k : IntKind) (x y : Int) : Int := k.wrap (BitVec.ofInt k.bits x &&& BitVec.ofInt k.bits y).toNat
def ior (k : IntKind) (x y : Int) : Int := k.wrap (BitVec.ofInt k.bits x ||| BitVec.ofInt k.bits y).toNat
def ixor (k : IntKind) (x y : Int) : Int := k.wrap (BitVec.ofInt k.bits x ^^^ BitVec.ofInt k.bits y).toNat
def iandnot (k : IntKind) (x y : Int) : Int := k.wrap (BitVec.ofInt k.bits x &&& ~~~ BitVec.ofInt k.bits y).toNat
def fop (r : Option Nat) : Nat := match r with | some r => fcanon r | none => fnan
def fadd (x y : Nat) : Nat := fop (Ieee.double.add x y)
def fsub (x y : Nat) : Nat := fop (Ieee.double.sub x y)
def fmul (x y : Nat) : Nat := fop (Ieee.double.mul x y)
def fdiv (x y : Nat) : Nat := fop (Ieee.double.div x y)
def fneg (x : Nat) : Nat := fcanon (Op.negFloat .f64 x)
def flt (x y : Nat) : Bool := Ieee.double.order x y == some .lt
def feq (x y : Nat) : Bool := Ieee.double.order x y == some .eq
def fle (x y : Nat) : Bool := Ieee.double.order x y == some .lt || Ieee.double.order x y == some .eq
def fgt (x y : Nat) : Bool := Ieee.double.order x y == some .gt
def fge (x y : Nat) : Bool := Ieee.double.order x y == some .gt || Ieee.double.order x y == some .eq
def fofInt (n : Int) : Nat := fcanon (FloatKind.f64.nearest n)
def binI (op : BinOp) (k : IntKind) (x y : Int) (K : AV → Prop) : Prop :=
  match op with
  | .add => arith k (x + y) K
  | .sub => arith k (x - y) K
  | .mul => arith k (x * y) K
  | .quo => y ≠ 0 ∧ arith k (x.tdiv y) K
  | .rem => y ≠ 0 ∧ K (.d (.int k (x.tmod y)))
  | .and => K (.d (.int k (iand k x y)))
  | .or => K (.d (.int k (ior k x y)))
  | .xor => K (.d (.int k (ixor k x y)))
  | .andNot => K (.d (.int k (iandnot k x y)))
  | .shl => 0 ≤ y ∧ arith k (x * 2 ^ (min y.toNat k.bits)) K
  | .shr => 0 ≤ y ∧ K (.d (.int k (x.fdiv (2 ^ (min y.toNat k.bits)))))
  | .eql => K (.d (.bool (x == y)))
  | .neq => K (.d (.bool (x != y)))
  | .lss => K (.d (.bool (decide (x < y))))
  | .leq => K (.d (.bool (decide (x ≤ y))))
  | .gtr => K (.d (.bool (decide (x > y))))
  | .geq => K (.d (.bool (decide (x ≥ y))))
def binF (op : BinOp) (x y : Nat) (K : AV → Prop) : Prop :=
  match op with
  | .add => K (.d (.flt (fadd x y)))
  | .sub => K (.d (.flt (fsub x y)))
  | .mul => K (.d (.flt (fmul x y)))
  | .quo => K (.d (.flt (fdiv x y)))
  | .eql => K (.d (.bool (feq x y)))
  | .neq => K (.d (.bool (!feq x y)))
  | .lss => K (.d (.bool (flt x y)))
  | .leq => K (.d (.bool (fle x y)))
  | .gtr => K (.d (.bool (fgt x y)))
  | .geq => K (.d (.bool (fge x y)))
  | _ => False
def ofD : D → AV
  | .agg cs => .agg (cs.map .d)
  | x => .d x
mutual
def AV.has (i : Nat) : AV → Bool
  | .agg cs => AV.hasL i cs
  | .box j _ => j == i
  | .own j _ _ => j == i
  | .elt j _ _ => j == i
  | .clo _ a b => AV.hasL i a || AV.hasL i b
  | _ => false
def AV.hasL (i : Nat) : List AV → Bool
  | [] => false
  | x :: xs => x.has i || AV.hasL i xs
end
mutual
def AV.pure : AV → Bool
  | .d _ => true
  | .agg cs => AV.pureL cs
  | .clo _ a b => AV.pureL a && AV.pureL b
  | _ => false
def AV.pureL : List AV → Bool
  | [] => true
  | x :: xs => x.pure && AV.pureL xs
end
def AV.kill (i : Nat) (v : AV) : AV := match v with
  | .d x => .d x
  | v => if v.has i then .any else v
def BC.kill (i : Nat) : BC → BC
  | .cells cs => .cells (cs.map (AV.kill i))
  | c => c
def Bx.kill (i : Nat) (b : Bx) : Bx := ⟨b.fz, b.ext, b.c.kill i⟩
mutual
def D.flat : D → Bool
  | .bool _ | .int _ _ | .flt _ => true
  | .agg cs => D.flatL cs
  | .tup cs => D.flatL cs
  | _ => false
def D.flatL : List D → Bool
  | [] => true
  | d :: ds => d.flat && D.flatL ds
end
def upd (f : Nat → AV) (d : Nat) (v : AV) : Nat → AV := fun t => if t = d then v else f t
def updb (f : Nat → Option Bx) (i : Nat) (b : Bx) : Nat → Option Bx := fun t => if t = i then some b else f t
namespace St
def lv (σ : St) : LV → AV
  | .t n => σ.tm n
  | .c d => ofD d
def put (σ : St) (d : Option Nat) (v : AV) : St := match d with
  | some d => ⟨upd σ.tm d v, σ.bx⟩
  | none => σ
def setb (σ : St) (i : Nat) (b : Bx) : St := ⟨σ.tm, updb σ.bx i b⟩
def fresh (σ : St) (i : Nat) (b : Bx) : St :=
  ⟨fun t => (σ.tm t).kill i, updb (fun j => (σ.bx j).map (Bx.kill i)) i b⟩
def forget (σ : St) (i : Nat) : St := ⟨fun t => (σ.tm t).kill i, fun j => (σ.bx j).map (Bx.kill i)⟩
def frz (σ : St) (i : Nat) : St := ⟨σ.tm, fun j => if j = i then (σ.bx j).map (fun b => ⟨true, b.ext, b.c⟩) else σ.bx j⟩
end St
def BC.part (lo n : Nat) : BC → Option D
  | .cells _ => none
  | .ints k xs => if lo + n ≤ xs.length then some (.ints k ((xs.drop lo).take n)) else none
  | .flts xs => if lo + n ≤ xs.length then some (.flts ((xs.drop lo).take n)) else none
  | .recs sz xs => if lo + n ≤ xs.length then some (.recs sz ((xs.drop lo).take n)) else none
def AV.cellD : AV → Option D
  | .d x => some x
  | _ => none
def cellsD : List AV → Option (List D)
  | [] => some []
  | c :: cs => match c.cellD, cellsD cs with
    | some d, some ds => some (d :: ds)
    | _, _ => none
mutual
def toD (σ : St) : AV → Option D
  | .d x => some x
  | .agg cs => match toDs σ cs with
    | some ds => some (.agg ds)
    | none => none
  | .own i lo n => match σ.bx i with
    | some b => b.c.part lo n
    | none => none
  | .box i 0 => match σ.bx i with
    | some ⟨_, _, .cells cs⟩ => match cellsD cs with
      | some ds => some (.ptr ds)
      | none => none
    | _ => none
  | .clo f a b => match toDs σ a, toDs σ b with
    | some x, some y => some (.fn f x y)
    | _, _ => none
  | _ => none
def toDs (σ : St) : List AV → Option (List D)
  | [] => some []
  | c :: cs => match toD σ c, toDs σ cs with
    | some d, some ds => some (d :: ds)
    | _, _ => none
end
mutual
def frzAV (σ : St) : AV → St
  | .agg cs => frzL σ cs
  | .box i _ => σ.frz i
  | .own i _ _ => σ.frz i
  | .elt i _ _ => σ.frz i
  | .clo _ a b => frzL (frzL σ a) b
  | _ => σ
def frzL (σ : St) : List AV → St
  | [] => σ
  | c :: cs => frzL (frzAV σ c) cs
end
mutual
def locAV (σ : St) : AV → Bool
  | .agg cs => locL σ cs
  | .box i _ => match σ.bx i with | some b => !b.ext | none => false
  | .own i _ _ => match σ.bx i with | some b => !b.ext | none => false
  | .elt i _ _ => match σ.bx i with | some b => !b.ext | none => false
  | .clo _ a b => locL σ a && locL σ b
  | _ => true
def locL (σ : St) : List AV → Bool
  | [] => true
  | c :: cs => locAV σ c && locL σ cs
end
def loadA (σ : St) (n : Nat) (g : Bool) (v : AV) (K : AV → Prop) : Prop :=
  match v with
  | .d (.ptr cs) => if g then n ≤ cs.length ∧ K (.agg ((cs.take n).map .d)) else
    match cs with
    | d :: _ => K (.d d)
    | [] => False
  | .box i off => match σ.bx i with
    | some ⟨_, _, .cells cs⟩ => if g then off + n ≤ cs.length ∧ K (.agg ((cs.drop off).take n)) else
      match cs[off]? with
      | some v => K v
      | none => False
    | _ => False
  | .elt i j off => match σ.bx i with
    | some ⟨_, _, .ints k xs⟩ => off = 0 ∧ g = false ∧ j < xs.length ∧ K (.d (.int k (xs.getD j 0)))
    | some ⟨_, _, .flts xs⟩ => off = 0 ∧ g = false ∧ j < xs.length ∧ K (.d (.flt (xs.getD j 0)))
    | some ⟨_, _, .recs _ xs⟩ => j < xs.length ∧ (if g then off + n ≤ (xs.getD j []).length ∧ K (.agg ((((xs.getD j []).drop off).take n).map .d)) else
      match (xs.getD j [])[off]? with
      | some d => K (.d d)
      | none => False)
    | _ => False
  | _ => False
def AV.cells : AV → List AV
  | .agg cs => cs
  | v => [v]
def AV.scal : AV → Bool
  | .d (.agg _) | .d (.tup _) | .agg _ | .yld _ | .und | .any => false
  | _ => true
def fillL (zero : List AV) : List (Nat × Nat × AV) → Option (List AV)
  | [] => some zero
  | (off, size, v) :: r =>
    if v.cells.length = size ∧ off + size ≤ zero.length ∧ v.cells.all AV.scal = true then fillL (zero.take off ++ v.cells ++ zero.drop (off + size)) r else none
def lvs (σ : St) (xs : List LV) : List AV := xs.map σ.lv
def asInts (k : IntKind) : List D → Option (List Int)
  | [] => some []
  | .int k' n :: r => if k' = k then (asInts k r).map (n :: ·) else none
  | _ => none
def asFlts : List D → Option (List Nat)
  | [] => some []
  | .flt n :: r => (asFlts r).map (n :: ·)
  | _ => none
def asRows (sz : Nat) : List D → Option (List (List D))
  | [] => some []
  | .agg cs :: r => if cs.length = sz then (asRows sz r).map (cs :: ·) else none
  | d :: r => if sz = 1 then (asRows sz r).map ([d] :: ·) else none
def asSlice (ek : EK) (ds : List D) : Option D :=
  match ek with
  | .ints k => (asInts k ds).map (.ints k)
  | .flts => (asFlts ds).map .flts
  | .recs sz => (asRows sz ds).map (.recs sz)
def lenA (v : AV) (K : AV → Prop) : Prop :=
  match v with
  | .d (.ints _ xs) => K (.d (.int .i64 xs.length))
  | .d (.flts xs) => K (.d (.int .i64 xs.length))
  | .d (.recs _ xs) => K (.d (.int .i64 xs.length))
  | .own _ _ n => K (.d (.int .i64 n))
  | _ => False
def szOf : Option Bx → Option Nat
  | some ⟨_, _, .recs sz _⟩ => some sz
  | some ⟨_, _, .ints _ _⟩ => some 1
  | some ⟨_, _, .flts _⟩ => some 1
  | _ => none
def bound (dflt : Int) (v : Option AV) (K : Int → Prop) : Prop :=
  match v with
  | none => K dflt
  | some (.d (.int _ n)) => K n
  | _ => False
def iaddrA (σ : St) (sz : Nat) (v : AV) (i : Int) (K : AV → Prop) : Prop :=
  match v with
  | .d (.ints k xs) => sz = 1 ∧ 0 ≤ i ∧ i < xs.length ∧ K (.d (.ptr [.int k (xs.getD i.toNat 0)]))
  | .d (.flts xs) => sz = 1 ∧ 0 ≤ i ∧ i < xs.length ∧ K (.d (.ptr [.flt (xs.getD i.toNat 0)]))
  | .d (.recs z xs) => sz = z ∧ 0 ≤ i ∧ i < xs.length ∧ K (.d (.ptr (xs.getD i.toNat [])))
  | .own b lo n => szOf (σ.bx b) = some sz ∧ 0 ≤ i ∧ i < n ∧ K (.elt b (lo + i.toNat) 0)
  | _ => False
def slcA (σ : St) (sz : Nat) (v : AV) (lo hi : Option AV) (K : AV → Prop) : Prop :=
  match v with
  | .d (.ints k xs) => bound 0 lo fun l => bound xs.length hi fun h => sz = 1 ∧ 0 ≤ l ∧ l ≤ h ∧ h ≤ xs.length ∧ K (.d (.ints k ((xs.take h.toNat).drop l.toNat)))
  | .d (.flts xs) => bound 0 lo fun l => bound xs.length hi fun h => sz = 1 ∧ 0 ≤ l ∧ l ≤ h ∧ h ≤ xs.length ∧ K (.d (.flts ((xs.take h.toNat).drop l.toNat)))
  | .d (.recs z xs) => bound 0 lo fun l => bound xs.length hi fun h => sz = z ∧ 0 ≤ l ∧ l ≤ h ∧ h ≤ xs.length ∧ K (.d (.recs z ((xs.take h.toNat).drop l.toNat)))
  | .own b o n => bound 0 lo fun l => bound n hi fun h => szOf (σ.bx b) = some sz ∧ 0 ≤ l ∧ l ≤ h ∧ h ≤ n ∧ K (.own b (o + l.toNat) (h.toNat - l.toNat))
  | _ => False
mutual
def AV.ids : AV → List Nat
  | .agg cs => AV.idsL cs
  | .box i _ => [i]
  | .own i _ _ => [i]
  | .elt i _ _ => [i]
  | .clo _ a b => AV.idsL a ++ AV.idsL b
  | _ => []
def AV.idsL : List AV → List Nat
  | [] => []
  | c :: cs => c.ids ++ AV.idsL cs
end
mutual
def AV.ren (g : Nat → Nat) : AV → AV
  | .agg cs => .agg (AV.renL g cs)
  | .box i o => .box (g i) o
  | .own i lo n => .own (g i) lo n
  | .elt i j o => .elt (g i) j o
  | .clo f a b => .clo f (AV.renL g a) (AV.renL g b)
  | v => v
def AV.renL (g : Nat → Nat) : List AV → List AV
  | [] => []
  | c :: cs => c.ren g :: AV.renL g cs
end
def outN : Nat := 1000000
def placeOf : List Nat → Nat → Nat
  | [], _ => 0
  | j :: r, i => if j = i then 0 else placeOf r i + 1
def distinct : List Nat → List Nat
  | [] => []
  | i :: r => i :: (distinct r).filter (· != i)
def BC.pure : BC → Bool
  | .cells cs => AV.pureL cs
  | _ => true
mutual
def AV.tidy (p : Nat → Bool) : AV → Bool
  | .d _ => true
  | .agg cs => AV.tidyL p cs
  | .box i _ => p i
  | .clo _ a b => AV.tidyL p a && AV.tidyL p b
  | _ => false
def AV.tidyL (p : Nat → Bool) : List AV → Bool
  | [] => true
  | c :: cs => c.tidy p && AV.tidyL p cs
end
def BC.tidy (p : Nat → Bool) : BC → Bool
  | .cells cs => AV.tidyL p cs
  | _ => true
def BC.ren (g : Nat → Nat) : BC → BC
  | .cells cs => .cells (AV.renL g cs)
  | c => c
def reach (σ : St) (is : List Nat) : List Nat :=
  distinct (is ++ is.flatMap fun i => match σ.bx i with
    | some ⟨_, _, .cells cs⟩ => AV.idsL cs
    | _ => [])
def contents (σ : St) (p : Nat → Bool) : List Nat → Option (List BC)
  | [] => some []
  | i :: r => match σ.bx i, contents σ p r with
    | some ⟨false, _, c⟩, some cs => if c.tidy p = true then some (c :: cs) else none
    | _, _ => none
def mval (C : Cm) (σ : St) (K : AV → Prop) (vs : List AV) : Prop :=
  match contents σ (fun _ => false) (distinct (AV.idsL vs)) with
  | some cs => C.pre (AV.renL (fun i => outN + placeOf (distinct (AV.idsL vs)) i) vs) cs ∧ C.out (AV.renL (fun i => outN + placeOf (distinct (AV.idsL vs)) i) vs) cs = cs ∧ K (ofD (C.res (AV.renL (fun i => outN + placeOf (distinct (AV.idsL vs)) i) vs) cs))
  | none => False
def aval (Γ : Env) (σ : St) (K : AV → Prop) : LOp → Prop
  | .mv x => K (σ.lv x)
  | .pick c a b => match σ.lv c with
    | .d (.bool t) => (t = true → K (σ.lv a)) ∧ (t = false → K (σ.lv b))
    | _ => False
  | .load n g x => loadA σ n g (σ.lv x) K
  | .nilck x => match σ.lv x with
    | .box i o => K (.box i o)
    | .elt i j o => K (.elt i j o)
    | .d (.ptr cs) => K (.d (.ptr cs))
    | .d (.fn f a b) => K (.d (.fn f a b))
    | .clo f a b => K (.clo f a b)
    | _ => False
  | .bin op x y => match σ.lv x, σ.lv y with
    | .d (.int k a), .d (.int k' b) => (k = k' ∨ op = .shl ∨ op = .shr) ∧ binI op k a b K
    | .d (.flt a), .d (.flt b) => binF op a b K
    | _, _ => False
  | .binb ne x y => match σ.lv x, σ.lv y with
    | .d (.bool a), .d (.bool b) => K (.d (.bool (if ne then a != b else a == b)))
    | _, _ => False
  | .un op x => match op, σ.lv x with
    | .not, .d (.bool b) => K (.d (.bool (!b)))
    | .neg, .d (.int k n) => arith k (0 - n) K
    | .neg, .d (.flt b) => K (.d (.flt (fneg b)))
    | _, _ => False
  | .conv k x => match σ.lv x with
    | .d (.int _ n) => arith k n K
    | _ => False
  | .convF x => match σ.lv x with
    | .d (.int _ n) => K (.d (.flt (fofInt n)))
    | .d (.flt b) => K (.d (.flt b))
    | _ => False
  | .faddr off x => match σ.lv x with
    | .box i o => K (.box i (o + off))
    | .elt i j o => K (.elt i j (o + off))
    | .d (.ptr cs) => K (.d (.ptr (cs.drop off)))
    | _ => False
  | .fld off n g x => match σ.lv x with
    | .agg cs => if g then off + n ≤ cs.length ∧ K (.agg ((cs.drop off).take n)) else
      match cs[off]? with
      | some v => K v
      | none => False
    | _ => False
  | .iaddr sz x i => match σ.lv i with
    | .d (.int _ n) => iaddrA σ sz (σ.lv x) n K
    | _ => False
  | .aaddr len sz x i => match σ.lv x, σ.lv i with
    | .box b o, .d (.int _ n) => 0 ≤ n ∧ n < len ∧ K (.box b (o + n.toNat * sz))
    | .d (.ptr cs), .d (.int _ n) => 0 ≤ n ∧ n < len ∧ K (.d (.ptr (cs.drop (n.toNat * sz))))
    | _, _ => False
  | .idx len n g x i => match σ.lv x, σ.lv i with
    | .agg cs, .d (.int _ j) => 0 ≤ j ∧ j < len ∧ (if g then j.toNat * n + n ≤ cs.length ∧ K (.agg ((cs.drop (j.toNat * n)).take n)) else
      match cs[j.toNat * n]? with
      | some v => K v
      | none => False)
    | _, _ => False
  | .extr i x => match σ.lv x with
    | .d (.tup ds) => match ds[i]? with
      | some d => K (ofD d)
      | none => False
    | _ => False
  | .len x => lenA (σ.lv x) K
  | .mx x y => match σ.lv x, σ.lv y with
    | .d (.int k a), .d (.int _ b) => K (.d (.int k (if b > a then b else a)))
    | _, _ => False
  | .mn x y => match σ.lv x, σ.lv y with
    | .d (.int k a), .d (.int _ b) => K (.d (.int k (if b < a then b else a)))
    | _, _ => False
  | .slc sz x lo hi => slcA σ sz (σ.lv x) (lo.map σ.lv) (hi.map σ.lv) K
  | .build zero parts => match fillL (zero.map .d) (parts.map fun p => (p.1, p.2.1, σ.lv p.2.2)) with
    | some cs => K (.agg cs)
    | none => False
  | .bsl ek parts => AV.pureL (lvs σ parts) = true ∧ match toDs σ (lvs σ parts) with
    | some ds => match asSlice ek ds with
      | some d => K (.d d)
      | none => False
    | none => False
  | .mkfn f fst cap => if (AV.pureL (lvs σ fst) && AV.pureL (lvs σ cap)) = true then
      match toDs σ (lvs σ fst), toDs σ (lvs σ cap) with
      | some a, some b => K (.d (.fn f a b))
      | _, _ => False
    else K (.clo f (lvs σ fst) (lvs σ cap))
  | .call f args => match toDs σ (lvs σ args), Γ.fn f with
    | some ds, some C => C.pre ds ∧ ((C.res ds).flat = true ∨ AV.pureL (lvs σ args) = true) ∧ K (ofD (C.res ds))
    | _, _ => False
  | .callv x args => match σ.lv x with
    | .d (.fn f fst cap) => match toDs σ (lvs σ args), Γ.fn f with
      | some ds, some C => C.pre (fst ++ ds ++ cap) ∧ ((C.res (fst ++ ds ++ cap)).flat = true ∨ AV.pureL (lvs σ args) = true) ∧ K (ofD (C.res (fst ++ ds ++ cap)))
      | _, _ => False
    | .clo f fst cap => match Γ.mt f with
      | some C => mval C σ K (fst ++ lvs σ args ++ cap)
      | none => False
    | _ => False
  | _ => False
def newArr (ek : EK) (zero : List D) (n : Nat) : Option BC :=
  match ek, zero with
  | .ints k, [.int k' 0] => if k' = k then some (.ints k (List.replicate n 0)) else none
  | .flts, [.flt 0] => some (.flts (List.replicate n 0))
  | .recs sz, z => if z.length = sz then some (.recs sz (List.replicate n z)) else none
  | _, _ => none
def emptyArr : EK → BC
  | .ints k => .ints k []
  | .flts => .flts []
  | .recs sz => .recs sz []
def storeB (c : BC) (off : Nat) (vs : List AV) : Option BC :=
  match c with
  | .cells cs => if off + vs.length ≤ cs.length then some (.cells (cs.take off ++ vs ++ cs.drop (off + vs.length))) else none
  | _ => none
def storeE (c : BC) (j off : Nat) (vs : List AV) : Option BC :=
  match c, vs with
  | .ints k xs, [.d (.int k' n)] => if k' = k ∧ off = 0 ∧ j < xs.length then some (.ints k (xs.set j n)) else none
  | .flts xs, [.d (.flt n)] => if off = 0 ∧ j < xs.length then some (.flts (xs.set j n)) else none
  | .recs sz xs, vs => match cellsD vs with
    | some ds => if j < xs.length ∧ off + ds.length ≤ sz then some (.recs sz (xs.set j ((xs.getD j []).take off ++ ds ++ (xs.getD j []).drop (off + ds.length)))) else none
    | none => none
  | _, _ => none
def scalRows (ys : List (List D)) : Bool := ys.all fun r => r.all fun d => (AV.d d).scal
def appB (c : BC) (d : D) : Option BC :=
  match c, d with
  | .ints k xs, .ints k' ys => if k' = k then some (.ints k (xs ++ ys)) else none
  | .flts xs, .flts ys => some (.flts (xs ++ ys))
  | .recs sz xs, .recs sz' ys => if sz' = sz ∧ scalRows ys = true then some (.recs sz (xs ++ ys)) else none
  | _, _ => none
def over {α : Type} (lo n : Nat) (xs ys : List α) : List α := xs.take lo ++ ys.take n ++ xs.drop (lo + (ys.take n).length)
def copyB (c : BC) (lo n : Nat) (d : D) : Option (BC × Nat) :=
  match c, d with
  | .ints k xs, .ints k' ys => if k' = k ∧ lo + n ≤ xs.length then some (.ints k (over lo n xs ys), min ys.length n) else none
  | .flts xs, .flts ys => if lo + n ≤ xs.length then some (.flts (over lo n xs ys), min ys.length n) else none
  | .recs sz xs, .recs sz' ys => if sz' = sz ∧ lo + n ≤ xs.length ∧ scalRows ys = true then some (.recs sz (over lo n xs ys), min ys.length n) else none
  | _, _ => none
def BC.count : BC → Nat
  | .cells cs => cs.length
  | .ints _ xs => xs.length
  | .flts xs => xs.length
  | .recs _ xs => xs.length
def roomN : Nat := 4294967296
def setAll (σ : St) : List Nat → List BC → St
  | i :: r, c :: cs => match σ.bx i with
    | some b => setAll (σ.setb i ⟨b.fz, b.ext, c⟩) r cs
    | none => setAll σ r cs
  | _, _ => σ
def inOut (n i : Nat) : Bool := decide (outN ≤ i) && decide (i < outN + n)
def mcall1 (C : Cm) (dst : Option Nat) (σ : St) (K : St → Prop) (vs : List AV) (is : List Nat) : Prop :=
  match contents σ (fun i => is.contains i) is with
  | some cs0 => let az := AV.renL (fun i => outN + placeOf is i) vs
    let cs := cs0.map (BC.ren fun i => outN + placeOf is i)
    C.pre az cs ∧ (C.out az cs).length = is.length ∧ (C.out az cs).all (BC.tidy (inOut is.length)) = true ∧
      K ((setAll σ is ((C.out az cs).map (BC.ren fun i => is.getD (i - outN) 0))).put dst (ofD (C.res az cs)))
  | none => False
def mcall (C : Cm) (dst : Option Nat) (σ : St) (K : St → Prop) (vs : List AV) : Prop := mcall1 C dst σ K vs (reach σ (reach σ (distinct (AV.idsL vs))))
def D.emp : D → Bool
  | .ints _ [] | .flts [] | .recs _ [] => true
  | _ => false
def D.isArr : D → Bool
  | .ints _ _ | .flts _ => true
  | _ => false
def ownD : D → Option (BC × Nat)
  | .ints k xs => some (.ints k xs, xs.length)
  | .flts xs => some (.flts xs, xs.length)
  | _ => none
def fcall (C : Ct) (dst : Option Nat) (σ : St) (K : St → Prop) (vs : List AV) : Prop :=
  match toDs σ vs with
  | some ds => C.pre ds ∧ (if C.own = true then match dst, ownD (C.res ds) with
      | some i, some (c, n) => K ((σ.fresh i ⟨false, false, c⟩).put (some i) (.own i 0 n))
      | _, _ => False
      else if ((C.res ds).flat || AV.pureL vs) = true then K (σ.put dst (ofD (C.res ds)))
      else locL σ vs = true ∧ K ((frzL σ vs).put dst (ofD (C.res ds))))
  | none => False
def ucall (Γ : Env) (dst : Option Nat) (σ : St) (K : St → Prop) (f : Nat) (vs : List AV) : Prop :=
  match Γ.mt f, Γ.fn f with
  | some C, _ => mcall C dst σ K vs
  | none, some C => fcall C dst σ K vs
  | none, none => False
def aop (Γ : Env) (dst : Option Nat) (σ : St) (K : St → Prop) (o : LOp) : Prop :=
  match o with
  | .alloc zero => match dst with
    | some i => K ((σ.fresh i ⟨false, false, .cells (zero.map .d)⟩).put dst (.box i 0))
    | none => False
  | .box x => match dst with
    | some i => (σ.lv x).has i = false ∧ (σ.lv x).cells.all AV.scal = true ∧ K ((σ.fresh i ⟨false, false, .cells (σ.lv x).cells⟩).put dst (.box i 0))
    | none => False
  | .mks ek zero n => match dst, σ.lv n with
    | some i, .d (.int _ n) => match newArr ek zero n.toNat with
      | some c => 0 ≤ n ∧ n ≤ roomN ∧ K ((σ.fresh i ⟨false, false, c⟩).put dst (.own i 0 n.toNat))
      | none => False
    | _, _ => False
  | .nil ek => match dst with
    | some i => K ((σ.fresh i ⟨false, false, emptyArr ek⟩).put dst (.own i 0 0))
    | none => False
  | .store n a x => match σ.lv a with
    | .box i off => match σ.bx i with
      | some ⟨false, e, c⟩ => (σ.lv x).cells.length = n ∧ (σ.lv x).cells.all AV.scal = true ∧ match storeB c off (σ.lv x).cells with
        | some c => K ((σ.setb i ⟨false, e, c⟩).put dst .und)
        | none => False
      | _ => False
    | .elt i j off => match σ.bx i with
      | some ⟨false, e, c⟩ => (σ.lv x).cells.length = n ∧ (σ.lv x).cells.all AV.scal = true ∧ match storeE c j off (σ.lv x).cells with
        | some c => K ((σ.setb i ⟨false, e, c⟩).put dst .und)
        | none => False
      | _ => False
    | _ => False
  | .app ek x y => match σ.lv x with
    | .own i lo n => match σ.bx i, toD σ (σ.lv y) with
      | some ⟨false, false, c⟩, some d => match appB c d with
        | some c' => szOf (σ.bx i) = some ek.sz ∧ lo = 0 ∧ n = c.count ∧ c'.count ≤ roomN ∧ K (((σ.forget i).setb i ⟨false, false, c'⟩).put dst (.own i 0 c'.count))
        | none => False
      | _, _ => False
    | _ => False
  | .copy ek x y => match σ.lv x with
    | .own i lo n => match σ.bx i, toD σ (σ.lv y) with
      | some ⟨false, e, c⟩, some d => match copyB c lo n d with
        | some (c', m) => szOf (σ.bx i) = some ek.sz ∧ K ((σ.setb i ⟨false, e, c'⟩).put dst (.d (.int .i64 m)))
        | none => False
      | _, _ => False
    | _ => False
  | .call f args => ucall Γ dst σ K f (lvs σ args)
  | .callv x args => match σ.lv x with
    | .d (.fn f fst cap) => ucall Γ dst σ K f (fst.map ofD ++ lvs σ args ++ cap.map ofD)
    | .clo f fst cap => ucall Γ dst σ K f (fst ++ lvs σ args ++ cap)
    | _ => False
  | .isnil x => match toD σ (σ.lv x) with
    | some d => d.isArr = true ∧ ∀ b : Bool, (b = true → d.emp = true) → K (σ.put dst (.d (.bool b)))
    | none => False
  | o => aval Γ σ (fun v => K (σ.put dst v)) o
def guarded (σ : St) (g : Option (Nat × Bool)) (yes no : Prop) : Prop :=
  match g with
  | none => yes
  | some (t, w) => match σ.tm t with
    | .d (.bool b) => (b = w → yes) ∧ (b = (!w) → no)
    | .und => no
    | _ => False
def LOp.ops : LOp → List LV
  | .isnil x | .mv x | .load _ _ x | .nilck x | .un _ x | .conv _ x | .convF x | .faddr _ x | .fld _ _ _ x | .extr _ x | .len x | .box x | .mks _ _ x => [x]
  | .pick c a b => [c, a, b]
  | .bin _ x y | .binb _ x y | .iaddr _ x y | .aaddr _ _ x y | .idx _ _ _ x y | .mx x y | .mn x y | .store _ x y | .app _ x y | .copy _ x y => [x, y]
  | .slc _ x lo hi => x :: (lo.toList ++ hi.toList)
  | .build _ ps => ps.map (·.2.2)
  | .bsl _ ps => ps
  | .mkfn _ a b => a ++ b
  | .call _ as => as
  | .callv x as => x :: as
  | .alloc _ | .nil _ | .bad => []
def LOp.makes : LOp → Bool
  | .alloc _ | .box _ | .mks _ _ _ | .nil _ => true
  | _ => false
def drops (σ : St) : List (LO × List Nat) → St
  | [] => σ
  | o :: r => drops (match o.1.op.makes, o.1.dst with
    | true, some i => ⟨fun t => (σ.tm t).kill i, fun j => if j = i then none else (σ.bx j).map (Bx.kill i)⟩
    | _, _ => σ) r
def apartAV (nb : List Nat) (vs : List AV) : Bool := nb.all fun i => !AV.hasL i vs
def made (σ : St) (o : LOp) (K : AV → Bx → Prop) (i : Nat) : Prop :=
  match o with
  | .alloc zero => K (.box i 0) ⟨false, false, .cells (zero.map .d)⟩
  | .box x => (σ.lv x).cells.all AV.scal = true ∧ K (.box i 0) ⟨false, false, .cells (σ.lv x).cells⟩
  | .mks ek zero n => match σ.lv n with
    | .d (.int _ n) => match newArr ek zero n.toNat with
      | some c => 0 ≤ n ∧ n ≤ roomN ∧ K (.own i 0 n.toNat) ⟨false, false, c⟩
      | none => False
    | _ => False
  | .nil ek => K (.own i 0 0) ⟨false, false, emptyArr ek⟩
  | _ => False
def stored (σ : St) (n : Nat) (a x : LV) (K : Nat → Bx → Prop) : Prop :=
  match a, σ.lv a with
  | .t p, .box i off => i = p ∧ match σ.bx i with
    | some ⟨false, e, c⟩ => (σ.lv x).cells.length = n ∧ (σ.lv x).cells.all AV.scal = true ∧ match storeB c off (σ.lv x).cells with
      | some c => K i ⟨false, e, c⟩
      | none => False
    | _ => False
  | _, _ => False
def storedG (σ : St) (n : Nat) (a x : LV) (K : Nat → Bx → Prop) : Prop :=
  match σ.lv a with
  | .box i off => match σ.bx i with
    | some ⟨false, e, c⟩ => (σ.lv x).cells.length = n ∧ (σ.lv x).cells.all AV.scal = true ∧ match storeB c off (σ.lv x).cells with
      | some c => K i ⟨false, e, c⟩
      | none => False
    | _ => False
  | .elt i j off => match σ.bx i with
    | some ⟨false, e, c⟩ => (σ.lv x).cells.length = n ∧ (σ.lv x).cells.all AV.scal = true ∧ match storeE c j off (σ.lv x).cells with
      | some c => K i ⟨false, e, c⟩
      | none => False
    | _ => False
  | _ => False
def storedN (nb : List Nat) (σ : St) (n : Nat) (a x : LV) (K : Nat → Bx → Prop) : Prop :=
  match nb with
  | [] => storedG σ n a x K
  | _ :: _ => stored σ n a x K
def onDst (d : Option Nat) (K : Nat → Prop) : Prop := match d with
  | some i => K i
  | none => False
def dop1 (Γ : Env) (dst : Option Nat) (op : LOp) (σ : St) (K : St → Prop) : Prop :=
  if op.makes = true then onDst dst fun i => σ.bx i = none ∧ made σ op (fun v b => K ((σ.setb i b).put (some i) v)) i else aval Γ σ (fun v => K (σ.put dst v)) op
def dcall (Γ : Env) (dst : Option Nat) (nb : List Nat) (σ : St) (K : St → Prop) (f : Nat) (as : List LV) : Prop :=
  match nb, Γ.mt f with
  | [], some C => mcall C dst σ K (lvs σ as)
  | _, _ => dop1 Γ dst (.call f as) σ K
def dop (Γ : Env) (o : LO) (nb : List Nat) (σ : St) (K : St → Prop) : Prop :=
  apartAV nb (lvs σ o.op.ops) = true ∧
  match o.op with
  | .store n a x => o.dst = none ∧ storedN nb σ n a x fun i b => K (σ.setb i b)
  | .call f as => dcall Γ o.dst nb σ K f as
  | op => dop1 Γ o.dst op σ K
def dops (Γ : Env) (K : St → Prop) : List (LO × List Nat) → St → Prop
  | [], σ => K σ
  | o :: r, σ => guarded σ o.1.guard (dop Γ o.1 o.2 σ (dops Γ K r)) (dops Γ K r (σ.put o.1.dst .und))
def aops (Γ : Env) (K : St → Prop) : List LO → St → Prop
  | [], σ => K σ
  | o :: r, σ => guarded σ o.guard (aop Γ o.dst σ (aops Γ K r) o.op) (aops Γ K r (σ.put o.dst .und))
inductive AX where
  | normal
  | exit (id : Nat)
  | ret
def awLoop (body : (AX → St → Prop) → St → Prop) (Q : AX → St → Prop) (σ : St) : Prop :=
  ∃ (I : St → Prop) (μ : St → Nat), I σ ∧ ∀ s, I s → body (fun e s' => match e with | .normal => I s' ∧ μ s' < μ s | e => Q e s') s
def aw (Γ : Env) : LC → (AX → St → Prop) → St → Prop
  | .skip, Q, σ => Q .normal σ
  | .reg ops, Q, σ => aops Γ (Q .normal) ops σ
  | .dreg pre suf, Q, σ => dops Γ (aops Γ (Q .normal) suf) pre (drops σ pre)
  | .seq a b, Q, σ => aw Γ a (fun e s => match e with | .normal => aw Γ b Q s | e => Q e s) σ
  | .cond c a b, Q, σ => match σ.lv c with
    | .d (.bool t) => (t = true → aw Γ a Q σ) ∧ (t = false → aw Γ b Q σ)
    | _ => False
  | .block id a, Q, σ => aw Γ a (fun e s => match e with | .exit j => if j = id then Q .normal s else Q (.exit j) s | e => Q e s) σ
  | .loop a, Q, σ => awLoop (aw Γ a) Q σ
  | .exit id, Q, σ => Q (.exit id) σ
  | .ret, Q, σ => Q .ret σ
def lres (σ : St) : LR → Option AV
  | .tmp t => some (σ.tm t)
  | .cell t n g => match σ.tm t with
    | .box i off => match σ.bx i with
      | some ⟨_, _, .cells cs⟩ => if g then (if off + n ≤ cs.length then some (.agg ((cs.drop off).take n)) else none) else cs[off]?
      | _ => none
    | _ => none
def lress (σ : St) : List LR → Option (List AV)
  | [] => some []
  | r :: rs => match lres σ r, lress σ rs with
    | some v, some vs => some (v :: vs)
    | _, _ => none
def tupD : List D → D
  | [d] => d
  | ds => .tup ds
def ares (rs : List LR) (σ : St) (K : D → Prop) : Prop :=
  match lress σ rs with
  | some vs => locL σ vs = true ∧ match toDs σ vs with
    | some ds => K (tupD ds)
    | none => False
  | none => False
def st0 (args : List D) : St := ⟨fun t => match args[t]? with | some d => ofD d | none => .und, fun _ => none⟩
def afn (Γ : Env) (l : LC) (rs : List LR) (args : List D) (K : D → Prop) : Prop :=
  aw Γ l (fun e σ => match e with | .exit _ => False | _ => ares rs σ K) (st0 args)
def aown (rs : List LR) (σ : St) (K : D → Prop) : Prop :=
  match rs with
  | [.tmp t] => match σ.tm t with
    | .own i lo n => match σ.bx i with
      | some ⟨false, false, .ints k xs⟩ => lo = 0 ∧ xs.length = n ∧ K (.ints k xs)
      | some ⟨false, false, .flts xs⟩ => lo = 0 ∧ xs.length = n ∧ K (.flts xs)
      | _ => False
    | _ => False
  | _ => False
def afno (Γ : Env) (l : LC) (rs : List LR) (args : List D) (K : D → Prop) : Prop :=
  aw Γ l (fun e σ => match e with | .exit _ => False | _ => aown rs σ K) (st0 args)
def st0m (as : List AV) (cs : List BC) : St :=
  ⟨fun t => match as[t]? with | some v => v | none => .und, fun i => if outN ≤ i then (cs[i - outN]?).map (fun c => ⟨false, true, c⟩) else none⟩
def outsOf (σ : St) (m k : Nat) : Nat → Option (List BC)
  | 0 => some []
  | n + 1 => match σ.bx (outN + k), outsOf σ m (k + 1) n with
    | some ⟨_, true, c⟩, some r => if c.tidy (inOut m) = true then some (c :: r) else none
    | _, _ => none
def afnm (Γ : Env) (l : LC) (rs : List LR) (as : List AV) (cs : List BC) (K : D → List BC → Prop) : Prop :=
  aw Γ l (fun e σ => match e with
    | .exit _ => False
    | _ => ares rs σ fun d => match outsOf σ cs.length 0 cs.length with
      | some cs' => K d cs'
      | none => False) (st0m as cs)
def varT (P : Program) (t : TypeId) : Option (Nat × Bool) :=
  match P.underlying t, P.info? t with
  | some (.struct _), some i => some (i.size, true)
  | some (.array _ _), some i => some (i.size, true)
  | some _, some i => if i.size = 1 then some (1, false) else none
  | _, _ => none
def sizeT (P : Program) (t : TypeId) : Option Nat := (P.info? t).map (·.size)
def elemEK (P : Program) (e : TypeId) : Option EK :=
  match P.underlying e, sizeT P e with
  | some (.int k), some 1 => some (.ints k)
  | some (.float .f64), some 1 => some .flts
  | some (.int _), _ => none
  | some (.float _), _ => none
  | some _, some (n + 1) => some (.recs (n + 1))
  | _, _ => none
def ekT (P : Program) (t : TypeId) : Option EK :=
  match P.underlying t with
  | some (.slice e) => elemEK P e
  | _ => none
def EK.empty : EK → D
  | .ints k => .ints k []
  | .flts => .flts []
  | .recs sz => .recs sz []
def constD (P : Program) (t : TypeId) : Value → Option D
  | .bool b => some (.bool b)
  | .int k n => some (.int k n)
  | .float .f64 b => if (Ieee.double.read b).isNaN then none else some (.flt b)
  | .slice none 0 0 => (ekT P t).map EK.empty
  | .nilFunc => some .nilfn
  | .pointer none => some .nilp
  | _ => none
def cellTs (P : Program) : Nat → TypeId → Option (List TypeId)
  | 0, _ => none
  | n + 1, t => match P.underlying t with
    | some (.struct fs) => fs.toList.foldr (fun f r => match cellTs P n f.type, r with | some a, some b => some (a ++ b) | _, _ => none) (some [])
    | some (.array len e) => match cellTs P n e with
      | some a => some ((List.replicate len a).flatten)
      | none => none
    | some _ => some [t]
    | none => none
def constDs (P : Program) : List TypeId → List Value → Option (List D)
  | [], [] => some []
  | t :: ts, v :: vs => match constD P t v, constDs P ts vs with
    | some d, some ds => some (d :: ds)
    | _, _ => none
  | _, _ => none
def zeroDs (P : Program) (t : TypeId) : Option (List D) :=
  match (P.info? t).bind (·.zero), cellTs P 10 t with
  | some z, some ts => constDs P ts z.cells.toList
  | _, _ => none
def transV (P : Program) (t : TypeId) : Operand → Option LV
  | .tmp n => some (.t n)
  | .func f => some (.c (.fn f [] []))
  | .const (.agg cs) => match cellTs P 10 t with
    | some ts => (constDs P ts cs.toList).map (fun ds => .c (.agg ds))
    | none => none
  | .const v => (constD P t v).map .c
  | .global _ => none
def transVs (P : Program) : List TypeId → List Operand → Option (List LV)
  | _, [] => some []
  | t :: ts, x :: xs => match transV P t x, transVs P ts xs with
    | some v, some vs => some (v :: vs)
    | _, _ => none
  | [], _ => none
def transS (P : Program) (x : Operand) : Option LV :=
  match x with
  | .const (.slice ..) | .const (.agg _) => none
  | x => transV P 0 x
def transParts (P : Program) (pl : List (Nat × Nat × TypeId)) : List (Nat × Operand) → Option (List (Nat × Nat × LV))
  | [] => some []
  | (i, x) :: r => match pl[i]?, transParts P pl r with
    | some (off, size, t), some ps => match transV P t x with
      | some v => some ((off, size, v) :: ps)
      | none => none
    | _, _ => none
def fieldPl (P : Program) (fs : List Field) : Option (List (Nat × Nat × TypeId)) :=
  match fs with
  | [] => some []
  | f :: r => match sizeT P f.type, fieldPl P r with
    | some n, some ps => some ((f.offset, n, f.type) :: ps)
    | _, _ => none
def sameTmp : Operand → Operand → Bool
  | .tmp a, .tmp b => a == b
  | .const (.int j a), .const (.int k b) => j == k && a == b
  | _, _ => false
def partsAt (n : Nat) : List (Nat × Operand) → Nat → Bool
  | [], i => i == n
  | (j, _) :: r, i => j == i && partsAt n r (i + 1)
def isSliceT (P : Program) (t : TypeId) : Bool := match P.underlying t with | some (.slice _) => true | _ => false
def tAssign (P : Program) (ty : TypeId) (x : Operand) : Option LOp :=
  match x with
  | .const (.slice none 0 0) => (ekT P ty).map .nil
  | x => (transV P ty x).map .mv
def tPick (P : Program) (ty : TypeId) (c a b : Operand) : Option LOp :=
  match transS P c, transV P ty a, transV P ty b with
  | some c, some a, some b => some (.pick c a b)
  | _, _, _ => none
def tLoad (P : Program) (t : TypeId) (x : Operand) : Option LOp :=
  match transS P x, varT P t with
  | some x, some (n, g) => some (.load n g x)
  | _, _ => none
def tStore (P : Program) (t : TypeId) (a x : Operand) : Option LOp :=
  match transS P a, transV P t x, sizeT P t with
  | some a, some x, some n => some (.store n a x)
  | _, _, _ => none
def tBin (P : Program) (op : BinOp) (t : TypeId) (x y : Operand) : Option LOp :=
  match transS P x, transS P y with
  | some x, some y => match P.underlying t, op with
    | some .bool, .eql => some (.binb false x y)
    | some .bool, .neq => some (.binb true x y)
    | some (.int _), op => some (.bin op x y)
    | some (.float .f64), op => some (.bin op x y)
    | _, _ => none
  | some x, none => match op, y, P.underlying t with
    | .eql, .const (.slice none 0 0), some (.slice _) => some (.isnil x)
    | _, _, _ => none
  | _, _ => none
def tConv (P : Program) (s t : TypeId) (x : Operand) : Option LOp :=
  match transS P x, P.underlying s, P.underlying t with
  | some x, some (.int _), some (.int k) => some (.conv k x)
  | some x, some (.int _), some (.float .f64) => some (.convF x)
  | some x, some (.float .f64), some (.float .f64) => some (.convF x)
  | _, _, _ => none
def tFaddr (P : Program) (s : TypeId) (x : Operand) (f : Nat) : Option LOp :=
  match P.underlying s, transS P x with
  | some (.struct fs), some x => match fs[f]? with
    | some f => match sizeT P f.type with
      | some (_ + 1) => some (.faddr f.offset x)
      | _ => none
    | none => none
  | _, _ => none
def tField (P : Program) (s : TypeId) (x : Operand) (f : Nat) : Option LOp :=
  match P.underlying s, transS P x with
  | some (.struct fs), some x => match fs[f]? with
    | some f => match varT P f.type with
      | some (n, g) => some (.fld f.offset n g x)
      | _ => none
    | none => none
  | _, _ => none
def tIaddr (P : Program) (t : TypeId) (x i : Operand) : Option LOp :=
  match P.underlying t, transS P x, transS P i with
  | some (.slice e), some x, some i => (sizeT P e).map fun n => .iaddr n x i
  | some (.array len e), some x, some i => (sizeT P e).map fun n => .aaddr len n x i
  | _, _, _ => none
def tIndex (P : Program) (t : TypeId) (x i : Operand) : Option LOp :=
  match P.underlying t, transS P x, transS P i with
  | some (.array len e), some x, some i => match varT P e with
    | some (n, g) => some (.idx len n g x i)
    | none => none
  | _, _, _ => none
def tMkfn (P : Program) (f : Nat) (fst cap : Array Operand) : Option LOp :=
  match transVs P (fst.toList.map fun _ => 0) fst.toList, transVs P (cap.toList.map fun _ => 0) cap.toList with
  | some a, some b => some (.mkfn f a b)
  | _, _ => none
def bytesOk (P : Program) (e : TypeId) : Bool := match P.info? e with
  | some i => decide (i.bytes ≤ 4096)
  | none => false
def tMake (P : Program) (t : TypeId) (l c : Operand) : Option LOp :=
  match P.underlying t, transS P l with
  | some (.slice e), some n => match elemEK P e, zeroDs P e with
    | some ek, some z => if sameTmp l c && bytesOk P e then some (.mks ek z n) else none
    | _, _ => none
  | _, _ => none
def transO? (P : Program) : Option Operand → Option (Option LV)
  | none => some none
  | some x => (transS P x).map some
def tSlice (P : Program) (t : TypeId) (x : Operand) (lo hi mx : Option Operand) : Option LOp :=
  match P.underlying t, transS P x, mx with
  | some (.slice e), some x, none => match sizeT P e, transO? P lo, transO? P hi with
    | some n, some lo, some hi => some (.slc n x lo hi)
    | _, _, _ => none
  | _, _, _ => none
def tBuild (P : Program) (t : TypeId) (parts : Array (Nat × Operand)) : Option LOp :=
  match P.underlying t, zeroDs P t with
  | some (.struct fs), some z => match fieldPl P fs.toList with
    | some pl => (transParts P pl parts.toList).map (.build z)
    | none => none
  | some (.array len e), some z => match sizeT P e with
    | some n => (transParts P ((List.range len).map fun i => (i * n, n, e)) parts.toList).map (.build z)
    | none => none
  | _, _ => none
def tBsl (P : Program) (t : TypeId) (len : Nat) (parts : Array (Nat × Operand)) : Option LOp :=
  match P.underlying t with
  | some (.slice e) => match elemEK P e with
    | some ek => if ((P.info? e).bind (·.zero)).isSome then
        if len = 0 then (if parts.toList.isEmpty then some (.nil ek) else none)
        else if partsAt len parts.toList 0 && decide (len * ek.sz ≤ 16777216) then (transVs P (parts.toList.map fun _ => e) (parts.toList.map (·.2))).map (.bsl ek) else none
      else none
    | none => none
  | _ => none
def appOk (P : Program) (t : TypeId) : Bool := match P.underlying t with
  | some (.slice e) => bytesOk P e && (match P.info? e with | some i => (match i.zero with | some z => z.cells.size == i.size | none => false) | none => false)
  | _ => false
def tBuiltin (P : Program) (b : Builtin) (args : List Operand) (ts : List TypeId) : Option LOp :=
  match b, args, ts with
  | .len, [x], [t] => if isSliceT P t then (transS P x).map .len else none
  | .max, [x, y], _ => match transS P x, transS P y with
    | some x, some y => some (.mx x y)
    | _, _ => none
  | .min, [x, y], _ => match transS P x, transS P y with
    | some x, some y => some (.mn x y)
    | _, _ => none
  | .append, [x, y], [t, u] => match ekT P t, transS P x, transS P y with
    | some ek, some x, some y => if isSliceT P u && appOk P t then some (.app ek x y) else none
    | _, _, _ => none
  | .copy, [x, y], [t, u] => match ekT P t, transS P x, transS P y with
    | some ek, some x, some y => if isSliceT P u then some (.copy ek x y) else none
    | _, _, _ => none
  | _, _, _ => none
def tCall (P : Program) (c : Call) : Option LOp :=
  match c.callee with
  | .builtin b => tBuiltin P b c.args.toList c.argTypes.toList
  | .value (.func f) => (transVs P c.argTypes.toList c.args.toList).map (.call f)
  | .value x => match transS P x, transVs P c.argTypes.toList c.args.toList with
    | some x, some as => some (.callv x as)
    | _, _ => none
  | .invoke _ _ => none
def transOp (P : Program) (ty : TypeId) : Op → Option LOp
  | .assign x => tAssign P ty x
  | .move x => (transV P ty x).map .mv
  | .pick c a b => tPick P ty c a b
  | .alloc e => (zeroDs P e).map .alloc
  | .box e x => (transV P e x).map .box
  | .load t x => tLoad P t x
  | .store t a x => tStore P t a x
  | .nilCheck x => (transS P x).map .nilck
  | .binOp op t x y _ => tBin P op t x y
  | .unOp op _ x => (transS P x).map (.un op)
  | .convert s t x => tConv P s t x
  | .fieldAddr s x f => tFaddr P s x f
  | .field s x f => tField P s x f
  | .indexAddr t x i => tIaddr P t x i
  | .index t x i => tIndex P t x i
  | .extract x i => (transS P x).map (.extr i)
  | .makeFunc (.func f) fst cap => tMkfn P f fst cap
  | .makeSlice t l c => tMake P t l c
  | .slice t x lo hi mx => tSlice P t x lo hi mx
  | .build t parts => tBuild P t parts
  | .buildSlice t len parts => tBsl P t len parts
  | .call c => tCall P c
  | .panic _ | .makeInterface _ _ => some .bad
  | _ => none
def dstOk (N : Nat) (d : Option Nat) : Bool := match d with | some d => decide (d < N) | none => true
def transG (ops : Array Oper) (g : Option (Nat × Bool)) : Option (Option (Nat × Bool)) :=
  match g with
  | none => some none
  | some (j, w) => match (ops[j]?).bind (·.dst) with
    | some d => some (some (d, w))
    | none => none
def transO (P : Program) (N : Nat) (ops : Array Oper) (o : Oper) : Option LO :=
  match transOp P o.type o.op, transG ops o.guard with
  | some op, some g => if dstOk N o.dst then some ⟨o.dst, op, g⟩ else none
  | _, _ => none
def transOs (P : Program) (N : Nat) (ops : Array Oper) : List Oper → Option (List LO)
  | [] => some []
  | o :: r => match transO P N ops o, transOs P N ops r with
    | some a, some b => some (a :: b)
    | _, _ => none
def waitsAll (b : Array Nat) (j : Nat) : Bool := (List.range j).all fun i => (b.getD j 0).testBit i
def sufLen (b : Array Nat) : Nat → Nat
  | 0 => 0
  | j + 1 => if waitsAll b j then sufLen b j + 1 else 0
def LO.writes (o : LO) : List Nat :=
  match o.op, o.dst with
  | .store _ (.t p) _, _ => [p]
  | op, some i => if op.makes then [i] else []
  | _, _ => []
def LO.slots (o : LO) : List Nat :=
  o.dst.toList ++ ((o.op.ops.filterMap fun | .t n => some n | _ => none) ++ (match o.guard with | some (g, _) => [g] | none => []))
def ordered (b : Array Nat) (i j : Nat) : Bool := (b.getD (max i j) 0).testBit (min i j)
def LO.isMv (o : LO) : Bool := match o.op with | .mv _ => true | _ => false
def LO.isStore (o : LO) : Bool := match o.op with | .store _ _ _ | .call _ _ => true | _ => false
def nbOf (b : Array Nat) (l : List LO) (i : Nat) : List Nat :=
  ((l.zipIdx.filter fun (_, j) => j != i && !ordered b i j).flatMap fun (o, _) => o.writes) ++
  (if ((l[i]?).map LO.isStore).getD false && (l.zipIdx.any fun (o, j) => j != i && !ordered b i j && !o.isMv) then [88888888] else [])
def apart2 (x y : LO) : Bool :=
  (match x.dst with | some d => !y.slots.contains d | none => true) && (match y.dst with | some d => !x.slots.contains d | none => true) &&
  (x.isMv || y.isMv || x.writes.all fun d => !y.writes.contains d)
def apartAll (b : Array Nat) (l : List LO) : Bool :=
  l.zipIdx.all fun (x, i) => l.zipIdx.all fun (y, j) => decide (j ≤ i) || ordered b i j || apart2 x y
def preOk (o : LO) : Bool := match o.op with
  | .app .. | .copy .. => false
  | _ => true
def withNb (b : Array Nat) (l : List LO) : List (LO × List Nat) := l.zipIdx.map fun (o, i) => (o, nbOf b l i)
def afterOk (ops : Array Oper) : Bool := ops.toList.zipIdx.all fun (o, i) => o.after.all fun e => !Region.binds .any e || decide (e.on < i)
def transC (P : Program) (N : Nat) : Code → Option LC
  | .skip => some .skip
  | .region _ ops false => (transOs P N ops ops.toList).map .reg
  | .region _ ops true => match transOs P N ops ops.toList with
    | some l => let b := Region.before ops
      let p := ops.size - sufLen b ops.size
      if (l.take p).all preOk && apartAll b (l.take p) && afterOk ops then some (.dreg (withNb b (l.take p)) (l.drop p)) else none
    | none => none
  | .seq a b => match transC P N a, transC P N b with
    | some a, some b => some (.seq a b)
    | _, _ => none
  | .cond c a b => match transS P c, transC P N a, transC P N b with
    | some c, some a, some b => some (.cond c a b)
    | _, _, _ => none
  | .block id a => (transC P N a).map (.block id)
  | .loop a => (transC P N a).map .loop
  | .exit id => some (.exit id)
  | .ret => some .ret
  | _ => none
def transR (P : Program) : ResultVar → Option LR
  | .tmp t => some (.tmp t)
  | .cell a t => (varT P t).map fun x => .cell a x.1 x.2
def transRs (P : Program) : List ResultVar → Option (List LR)
  | [] => some []
  | r :: rs => match transR P r, transRs P rs with
    | some a, some b => some (a :: b)
    | _, _ => none
def transF (P : Program) (f : Nat) : Option (LC × List LR) :=
  match P.funcs[f]? with
  | some fn => match fn.body with
    | some c => match transC P fn.ntmps c, transRs P fn.results.toList with
      | some l, some rs => some (l, rs)
      | _, _ => none
    | none => none
  | none => none
end RV
namespace RV
open Go Go.RowKit
structure Reg where
  blk : Nat
  off : Nat
  len : Nat
  sz : Nat
  whole : Bool
def Reg.has (r : Reg) (a : Addr) : Prop := a.block = r.blk ∧ (r.whole = true ∨ (r.off ≤ a.off ∧ a.off < r.off + r.len))
abbrev BM := Nat → Option Reg
mutual
def AVRep (rd : Mem) (β : BM) : AV → Value → Prop
  | .d x, v => Rep rd x v
  | .agg cs, v => ∃ vs, v = .agg vs ∧ AVRepL rd β cs vs.toList
  | .box i off, v => ∃ r, β i = some r ∧ v = .pointer (some (cellAt r.blk (r.off + off)))
  | .own i lo n, v => ∃ A cap, v = .slice A n cap ∧ n ≤ cap ∧ ((n = 0 ∧ cap = 0) ∨ ∃ r, β i = some r ∧ A = some (cellAt r.blk (r.off + lo * r.sz)) ∧ (r.whole = true → lo * r.sz + cap * r.sz ≤ r.len))
  | .elt i j off, v => ∃ r, β i = some r ∧ v = .pointer (some (cellAt r.blk (r.off + j * r.sz + off)))
  | .clo f a b, v => ∃ vf vc, v = .func (.func f) vf vc ∧ AVRepL rd β a vf.toList ∧ AVRepL rd β b vc.toList
  | .yld l, v => v = .func (.yield l) #[] #[]
  | .und, v => v = undef
  | .any, _ => True
def AVRepL (rd : Mem) (β : BM) : List AV → List Value → Prop
  | [], vs => vs = []
  | c :: cs, vs => ∃ v us, vs = v :: us ∧ AVRep rd β c v ∧ AVRepL rd β cs us
end
mutual
theorem AVRep.mono {r r' : Mem} (h : MemLe r r') {β : BM} : ∀ (x : AV) (v : Value), AVRep r β x v → AVRep r' β x v
  | .d x, _, H => by simp only [AVRep] at *; exact Rep.mono h x _ H
  | .agg cs, _, H => by
    simp only [AVRep] at *
    obtain ⟨vs, e, H⟩ := H
    exact ⟨vs, e, AVRepL.mono h cs _ H⟩
  | .box _ _, _, H => by simp only [AVRep] at *; exact H
  | .own _ _ _, _, H => by simp only [AVRep] at *; exact H
  | .elt _ _ _, _, H => by simp only [AVRep] at *; exact H
  | .clo _ x y, _, H => by
    simp only [AVRep] at *
    obtain ⟨vf, vc, e, H1, H2⟩ := H
    exact ⟨vf, vc, e, AVRepL.mono h x _ H1, AVRepL.mono h y _ H2⟩
  | .yld _, _, H => by simp only [AVRep] at *; exact H
  | .und, _, H => by simp only [AVRep] at *; exact H
  | .any, _, _ => by simp only [AVRep]
theorem AVRepL.mono {r r' : Mem} (h : MemLe r r') {β : BM} : ∀ (xs : List AV) (vs : List Value), AVRepL r β xs vs → AVRepL r' β xs vs
  | [], _, H => by simpa only [AVRepL] using H
  | x :: xs, _, H => by
    simp only [AVRepL] at *
    obtain ⟨v, us, e, h1, h2⟩ := H
    exact ⟨v, us, e, AVRep.mono h x v h1, AVRepL.mono h xs us h2⟩
end
mutual
theorem AVRep.congr {r : Mem} {β β' : BM} : ∀ (x : AV) (v : Value), (∀ j, x.has j = true → β' j = β j) → AVRep r β x v → AVRep r β' x v
  | .d x, _, _, H => by simpa only [AVRep] using H
  | .agg cs, _, h, H => by
    simp only [AVRep] at *
    obtain ⟨vs, e, H⟩ := H
    exact ⟨vs, e, AVRepL.congr cs _ (fun j hj => h j (by simpa only [AV.has] using hj)) H⟩
  | .box i _, _, h, H => by
    have := h i (by simp [AV.has])
    simp only [AVRep, this] at *; exact H
  | .own i _ _, _, h, H => by
    have := h i (by simp [AV.has])
    simp only [AVRep, this] at *; exact H
  | .elt i _ _, _, h, H => by
    have := h i (by simp [AV.has])
    simp only [AVRep, this] at *; exact H
  | .clo _ x y, _, h, H => by
    simp only [AVRep] at *
    obtain ⟨vf, vc, e, H1, H2⟩ := H
    exact ⟨vf, vc, e, AVRepL.congr x _ (fun j hj => h j (by simp [AV.has, hj])) H1, AVRepL.congr y _ (fun j hj => h j (by simp [AV.has, hj])) H2⟩
  | .yld _, _, _, H => by simpa only [AVRep] using H
  | .und, _, _, H => by simpa only [AVRep] using H
  | .any, _, _, _ => by simp only [AVRep]
theorem AVRepL.congr {r : Mem} {β β' : BM} : ∀ (xs : List AV) (vs : List Value), (∀ j, AV.hasL j xs = true → β' j = β j) → AVRepL r β xs vs → AVRepL r β' xs vs
  | [], _, _, H => by simpa only [AVRepL] using H
  | x :: xs, _, h, H => by
    simp only [AVRepL] at *
    obtain ⟨v, us, e, h1, h2⟩ := H
    exact ⟨v, us, e, AVRep.congr x v (fun j hj => h j (by simp [AV.hasL, hj])) h1, AVRepL.congr xs us (fun j hj => h j (by simp [AV.hasL, hj])) h2⟩
end
theorem AVRep.kill {r : Mem} {β β' : BM} {i : Nat} (hβ : ∀ j, j ≠ i → β' j = β j) {x : AV} {v : Value} (H : AVRep r β x v) : AVRep r β' (x.kill i) v := by
  have key : AVRep r β' (if x.has i then AV.any else x) v := by
    by_cases hx : x.has i = true
    · rw [if_pos hx]; simp only [AVRep]
    · rw [if_neg hx]
      refine AVRep.congr x v (fun j hj => hβ j fun e => hx (e ▸ hj)) H
  unfold AV.kill
  split
  · simpa [AV.has] using key
  · exact key
def CellsOk (w : World) (rd : Mem) (β : BM) (b : Nat) : Nat → List AV → Prop
  | _, [] => True
  | o, v :: vs => (∃ u, w.cell? (cellAt b o) = some u ∧ AVRep rd β v u) ∧ CellsOk w rd β b (o + 1) vs
def DCells (w : World) (rd : Mem) (b : Nat) : Nat → List D → Prop
  | _, [] => True
  | o, v :: vs => (∃ u, w.cell? (cellAt b o) = some u ∧ Rep rd v u) ∧ DCells w rd b (o + 1) vs
def RowsOk (w : World) (rd : Mem) (b sz : Nat) : Nat → List (List D) → Prop
  | _, [] => True
  | o, r :: rs => r.length = sz ∧ DCells w rd b o r ∧ RowsOk w rd b sz (o + sz) rs
def BCOk (w : World) (rd : Mem) (β : BM) (r : Reg) : BC → Prop
  | .cells cs => cs.length ≤ r.len ∧ CellsOk w rd β r.blk r.off cs
  | .ints k xs => r.sz = 1 ∧ xs.length ≤ r.len ∧ RepInts w.cell? k r.blk r.off xs
  | .flts xs => r.sz = 1 ∧ xs.length ≤ r.len ∧ RepFlts w.cell? r.blk r.off xs
  | .recs sz xs => r.sz = sz ∧ xs.length * sz ≤ r.len ∧ RowsOk w rd r.blk sz r.off xs
def Phys (w : World) (r : Reg) : Prop :=
  ∃ arr e fz, w.heap[r.blk]? = some (.cells arr e fz) ∧ r.off + r.len ≤ arr.size ∧ (∀ o, r.off ≤ o → o < r.off + r.len → ¬ (fz.1 ≤ o ∧ o < fz.2)) ∧
    (r.whole = true → r.off = 0 ∧ arr.size = r.len ∧ fz = (0, 0))
def BC.isNil : BC → Bool
  | .ints _ [] | .flts [] | .recs _ [] => true
  | _ => false
def ObjBut (R : BM) (b : Nat) (o o' : Option Obj) : Prop :=
  o' = o ∨ ∃ c e fz c', o = some (.cells c e fz) ∧ o' = some (.cells c' e fz) ∧ c'.size = c.size ∧ ∀ i : Nat, (∀ j r, R j = some r → ¬ r.has (cellAt b i)) → c'[i]? = c[i]?
structure KeepBut (R : BM) (w0 w : World) : Prop where
  os : w.os = w0.os
  tape : w.tape = w0.tape
  output : w.output = w0.output
  size : w0.heap.size ≤ w.heap.size
  block : ∀ k, k < w0.heap.size → ObjBut R k (w0.heap[k]?) (w.heap[k]?)
structure Base extends World where
  oth : Nat → Option Obj
def _root_.Go.World.base (w : World) : Base := ⟨w, fun _ => none⟩
def NoCells (o : Obj) : Prop := ∀ c t fz, o ≠ .cells c t fz
structure Conc (N : Nat) (w0 : Base) (rd0 : Mem) (R : BM) (σ : St) (a : Act) (w : World) (rd : Mem) (β : BM) : Prop where
  size : a.tmps.size = N
  defers : a.defers = []
  kp : KeepBut R w0.toWorld w
  oth : ∀ k o, w0.oth k = some o → NoCells o ∧ w.heap[k]? = some o
  rdw : MemLe rd w.cell?
  rdm : MemLe rd0 rd
  rd0 : ∀ a v, rd a = some v → a.block < w0.heap.size → rd0 a = some v
  rdo : ∀ i r b, β i = some r → σ.bx i = some b → b.fz = false → ∀ a, r.has a → rd a = none
  tms : ∀ t, AVRep rd β (σ.tm t) (a.tmps.getD t undef)
  box : ∀ i r, β i = some r → ∃ b, σ.bx i = some b ∧ BCOk w rd β r b.c ∧ Phys w r ∧ (b.ext = false → w0.heap.size ≤ r.blk ∧ r.whole = true) ∧ (b.ext = true → R i = some r ∧ r.whole = false)
  nob : ∀ i b, σ.bx i = some b → β i = none → (b.ext = true → R i = none) ∧ b.c.isNil = true
  dis : ∀ i j ri rj, i ≠ j → β i = some ri → β j = some rj → ∀ a, ri.has a → ¬ rj.has a
theorem CellsOk.mono {w w' : World} {rd rd' : Mem} {β β' : BM} {b : Nat} : ∀ {cs : List AV} {o : Nat},
    (∀ i, o ≤ i → i < o + cs.length → w'.cell? (cellAt b i) = w.cell? (cellAt b i)) → (∀ v ∈ cs, ∀ u, AVRep rd β v u → AVRep rd' β' v u) →
    CellsOk w rd β b o cs → CellsOk w' rd' β' b o cs
  | [], _, _, _, _ => trivial
  | v :: vs, o, hc, hv, ⟨⟨u, e, H⟩, H2⟩ =>
    ⟨⟨u, by rw [hc o (by omega) (by simp)]; exact e, hv v (by simp) u H⟩,
      CellsOk.mono (fun i h1 h2 => hc i (by omega) (by simp; omega)) (fun x hx => hv x (by simp [hx])) H2⟩
theorem DCells.mono {w w' : World} {rd rd' : Mem} (hm : MemLe rd rd') {b : Nat} : ∀ {cs : List D} {o : Nat},
    (∀ i, o ≤ i → i < o + cs.length → w'.cell? (cellAt b i) = w.cell? (cellAt b i)) → DCells w rd b o cs → DCells w' rd' b o cs
  | [], _, _, _ => trivial
  | v :: vs, o, hc, ⟨⟨u, e, H⟩, H2⟩ =>
    ⟨⟨u, by rw [hc o (by omega) (by simp)]; exact e, H.mono hm v u⟩, DCells.mono hm (fun i h1 h2 => hc i (by omega) (by simp; omega)) H2⟩
theorem RowsOk.mono {w w' : World} {rd rd' : Mem} (hm : MemLe rd rd') {b sz : Nat} : ∀ {rs : List (List D)} {o : Nat},
    (∀ i, o ≤ i → i < o + rs.length * sz → w'.cell? (cellAt b i) = w.cell? (cellAt b i)) → RowsOk w rd b sz o rs → RowsOk w' rd' b sz o rs
  | [], _, _, _ => trivial
  | r :: rs, o, hc, ⟨h1, h2, h3⟩ => by
    have e : (r :: rs).length * sz = sz + rs.length * sz := by simp [Nat.succ_mul]; omega
    rw [e] at hc
    exact ⟨h1, h2.mono hm (fun i a b => hc i a (by omega)), RowsOk.mono hm (fun i a b => hc i (by omega) (by omega)) h3⟩
theorem RepInts.cells {m m' : Mem} {k : IntKind} {b : Nat} : ∀ {xs : List Int} {o : Nat}, (∀ i, o ≤ i → i < o + xs.length → m' (cellAt b i) = m (cellAt b i)) → RepInts m k b o xs → RepInts m' k b o xs
  | [], _, _, _ => trivial
  | _ :: _, o, hc, ⟨h1, h2⟩ => ⟨by rw [hc o (by omega) (by simp)]; exact h1, RepInts.cells (fun i a b => hc i (by omega) (by simp; omega)) h2⟩
theorem RepFlts.cells {m m' : Mem} {b : Nat} : ∀ {xs : List Nat} {o : Nat}, (∀ i, o ≤ i → i < o + xs.length → m' (cellAt b i) = m (cellAt b i)) → RepFlts m b o xs → RepFlts m' b o xs
  | [], _, _, _ => trivial
  | _ :: _, o, hc, ⟨⟨y, h1, e⟩, h2⟩ => ⟨⟨y, by rw [hc o (by omega) (by simp)]; exact h1, e⟩, RepFlts.cells (fun i a b => hc i (by omega) (by simp; omega)) h2⟩
theorem BCOk.mono {w w' : World} {rd rd' : Mem} (hm : MemLe rd rd') {β β' : BM} {r : Reg} {c : BC}
    (hc : ∀ i, r.off ≤ i → i < r.off + r.len → w'.cell? (cellAt r.blk i) = w.cell? (cellAt r.blk i))
    (hv : ∀ cs, c = .cells cs → ∀ v ∈ cs, ∀ u, AVRep rd β v u → AVRep rd' β' v u) (H : BCOk w rd β r c) : BCOk w' rd' β' r c := by
  cases c with
  | cells cs => exact ⟨H.1, H.2.mono (fun i a b => hc i a (by have := H.1; omega)) (hv cs rfl)⟩
  | ints k xs => exact ⟨H.1, H.2.1, H.2.2.cells fun i a b => hc i a (by have := H.2.1; omega)⟩
  | flts xs => exact ⟨H.1, H.2.1, H.2.2.cells fun i a b => hc i a (by have := H.2.1; omega)⟩
  | recs sz xs => exact ⟨H.1, H.2.1, H.2.2.mono hm fun i a b => hc i a (by have := H.2.1; omega)⟩
theorem Phys.lt {w : World} {r : Reg} (h : Phys w r) : r.blk < w.heap.size := by
  obtain ⟨arr, e, fz, h, _⟩ := h
  rcases Nat.lt_or_ge r.blk w.heap.size with h' | h'
  · exact h'
  · rw [Array.getElem?_eq_none h'] at h; cases h
theorem Phys.of_block {w w' : World} {r : Reg} (h : Phys w r) (e : w'.heap[r.blk]? = w.heap[r.blk]?) : Phys w' r := by
  obtain ⟨arr, t, fz, h, h2⟩ := h
  exact ⟨arr, t, fz, e.trans h, h2⟩
theorem cell_of_block {w w' : World} {a : Addr} (e : w'.heap[a.block]? = w.heap[a.block]?) : w'.cell? a = w.cell? a := by
  unfold World.cell?; rw [e]
theorem lt_of_cell {w : World} {a : Addr} {v : Value} (h : w.cell? a = some v) : a.block < w.heap.size := World.block_lt_of_cell? _ _ h
theorem ObjBut.refl (R : BM) (b : Nat) (o : Option Obj) : ObjBut R b o o := .inl rfl
theorem ObjBut.trans {R : BM} {b : Nat} {x y z : Option Obj} (h : ObjBut R b x y) (k : ObjBut R b y z) : ObjBut R b x z := by
  rcases h with rfl | ⟨c, e, fz, c', h1, h2, h3, h4⟩
  · exact k
  · rcases k with rfl | ⟨d, e', fz', d', k1, k2, k3, k4⟩
    · exact .inr ⟨c, e, fz, c', h1, h2, h3, h4⟩
    · rw [h2] at k1
      simp only [Option.some.injEq, Obj.cells.injEq] at k1
      obtain ⟨rfl, rfl, rfl⟩ := k1
      exact .inr ⟨c, e, fz, d', h1, k2, k3.trans h3, fun i hi => (k4 i hi).trans (h4 i hi)⟩
theorem KeepBut.refl (R : BM) (w : World) : KeepBut R w w := ⟨rfl, rfl, rfl, Nat.le_refl _, fun _ _ => .inl rfl⟩
theorem KeepBut.trans {R : BM} {a b c : World} (h : KeepBut R a b) (k : KeepBut R b c) : KeepBut R a c :=
  ⟨k.os.trans h.os, k.tape.trans h.tape, k.output.trans h.output, Nat.le_trans h.size k.size, fun i hi => (h.block i hi).trans (k.block i (Nat.lt_of_lt_of_le hi h.size))⟩
theorem KeepBut.below {R : BM} {w0 w w' : World} (h : KeepBut R w0 w) (k : Below w.heap.size w w') : KeepBut R w0 w' :=
  h.trans ⟨k.os, k.tape, k.output, k.size, fun i hi => .inl (k.block i hi)⟩
theorem dstOk_some {N d : Nat} (h : dstOk N (some d) = true) : d < N := by simpa [dstOk] using h
theorem getD_put {a : Act} {N : Nat} (hs : a.tmps.size = N) {dst : Option Nat} (hd : dstOk N dst = true) (u : Value) (t : Nat) :
    (a.put dst u).tmps.getD t undef = if dst = some t then u else a.tmps.getD t undef := by
  cases dst with
  | none => simp [Act.put]
  | some d =>
    have hd := dstOk_some hd
    by_cases e : d = t
    · subst e
      simp [Act.put, Array.getD_eq_getD_getElem?, hs, hd]
    · simp [Act.put, e, Array.getD_eq_getD_getElem?, Array.getElem?_setIfInBounds_ne e]
theorem put_tm (σ : St) (dst : Option Nat) (v : AV) (t : Nat) : (σ.put dst v).tm t = if dst = some t then v else σ.tm t := by
  cases dst with
  | none => simp [St.put]
  | some d => simp only [St.put, upd, Option.some.injEq]; by_cases e : t = d <;> simp [e, eq_comm]
theorem put_bx (σ : St) (dst : Option Nat) (v : AV) : (σ.put dst v).bx = σ.bx := by cases dst <;> rfl
theorem put_size (a : Act) (dst : Option Nat) (u : Value) : (a.put dst u).tmps.size = a.tmps.size := by cases dst <;> simp [Act.put]
theorem put_defers (a : Act) (dst : Option Nat) (u : Value) : (a.put dst u).defers = a.defers := by cases dst <;> rfl
section
variable {N : Nat} {w0 : Base} {rd0 : Mem} {R : BM} {σ : St} {a : Act} {w : World} {rd : Mem} {β : BM}
theorem Conc.put (h : Conc N w0 rd0 R σ a w rd β) {dst : Option Nat} (hd : dstOk N dst = true) {v : AV} {u : Value} (hv : AVRep rd β v u) :
    Conc N w0 rd0 R (σ.put dst v) (a.put dst u) w rd β where
  size := by rw [put_size]; exact h.size
  defers := by rw [put_defers]; exact h.defers
  kp := h.kp
  oth := h.oth
  rdw := h.rdw
  rdm := h.rdm
  rd0 := h.rd0
  rdo := by rw [put_bx]; exact h.rdo
  tms := fun t => by
    rw [put_tm, getD_put h.size hd]
    split
    · exact hv
    · exact h.tms t
  box := by rw [put_bx]; exact h.box
  nob := by rw [put_bx]; exact h.nob
  dis := h.dis
theorem oth_below {w w1 : World} (hb : Below w.heap.size w w1) {M : Nat → Option Obj} (h : ∀ k o, M k = some o → NoCells o ∧ w.heap[k]? = some o) : ∀ k o, M k = some o → NoCells o ∧ w1.heap[k]? = some o := fun k o hk => by
  obtain ⟨h1, h2⟩ := h k o hk
  exact ⟨h1, by rw [hb.block k (Array.getElem?_eq_some_iff.1 h2).1]; exact h2⟩
theorem Conc.more (h : Conc N w0 rd0 R σ a w rd β) {w1 : World} (hb : Below w.heap.size w w1) {rd1 : Mem} (hle : MemLe rd rd1) (hw : MemLe rd1 w1.cell?)
    (hold : ∀ a v, rd1 a = some v → a.block < w.heap.size → rd a = some v) : Conc N w0 rd0 R σ a w1 rd1 β where
  size := h.size
  defers := h.defers
  kp := h.kp.below hb
  oth := oth_below hb h.oth
  rdw := hw
  rdm := h.rdm.trans hle
  rd0 := fun a v e hl => h.rd0 a v (hold a v e (Nat.lt_of_lt_of_le hl h.kp.size)) hl
  rdo := fun i r b hi hx hf ad ha => by
    obtain ⟨_, _, _, hp, _⟩ := h.box i r hi
    cases e : rd1 ad with
    | none => rfl
    | some v =>
      have hlt : ad.block < w.heap.size := by rw [ha.1]; exact hp.lt
      have := hold ad v e hlt
      rw [h.rdo i r b hi hx hf ad ha] at this
      cases this
  tms := fun t => (h.tms t).mono hle
  box := fun i r hi => by
    obtain ⟨b, hx, hc, hp, h1, h2⟩ := h.box i r hi
    have hlt := hp.lt
    exact ⟨b, hx, hc.mono hle (fun j _ _ => cell_of_block (hb.block _ hlt)) (fun _ _ v _ u H => AVRep.mono hle v u H), hp.of_block (hb.block _ hlt), h1, h2⟩
  nob := h.nob
  dis := h.dis
end
end RV
namespace RV
open Go Go.RowKit
noncomputable def plus (w : World) (S : Addr → Prop) (rd : Mem) : Mem := fun a =>
  match rd a with
  | some v => some v
  | none => open Classical in if S a then w.cell? a else none
theorem le_plus (w : World) (S : Addr → Prop) (rd : Mem) : MemLe rd (plus w S rd) := fun a v h => by simp [plus, h]
theorem plus_le {w : World} {S : Addr → Prop} {rd : Mem} (h : MemLe rd w.cell?) : MemLe (plus w S rd) w.cell? := fun a v e => by
  unfold plus at e
  split at e
  · rename_i u hu; rw [← e]; exact h a u hu
  · split at e
    · exact e
    · cases e
theorem plus_at {w : World} {S : Addr → Prop} {rd : Mem} (h : MemLe rd w.cell?) {a : Addr} (hs : S a) : plus w S rd a = w.cell? a := by
  unfold plus
  split
  · rename_i u hu; exact (h a u hu).symm
  · rw [if_pos hs]
theorem plus_off {w : World} {S : Addr → Prop} {rd : Mem} {a : Addr} (hs : ¬ S a) : plus w S rd a = rd a := by
  unfold plus
  split
  · rename_i u hu; exact hu.symm
  · rename_i hu; rw [if_neg hs, hu]
def Fresh (w w' : World) (rd : Mem) : Mem := fun a => if a.block < w.heap.size then rd a else w'.cell? a
section
variable {N : Nat} {w0 : Base} {rd0 : Mem} {R : BM} {σ σ' : St} {a : Act} {w : World} {rd : Mem} {β β' : BM}
def BC.mapf (f : AV → AV) : BC → BC
  | .cells cs => .cells (cs.map f)
  | c => c
def Bx.mapf (f : AV → AV) (b : Bx) : Bx := ⟨b.fz, b.ext, b.c.mapf f⟩
theorem Bx.kill_eq (i : Nat) (b : Bx) : b.kill i = b.mapf (AV.kill i) := by
  cases b with | mk f e c => cases c <;> rfl
theorem Bx.mapf_id (b : Bx) : b.mapf (fun v => v) = b := by
  cases b with | mk f e c => cases c <;> simp [Bx.mapf, BC.mapf]
theorem CellsOk.mapf {w w' : World} {rd : Mem} {f : AV → AV} (hf : ∀ x v, AVRep rd β x v → AVRep rd β' (f x) v) {b : Nat} : ∀ {cs : List AV} {o : Nat},
    (∀ i, o ≤ i → i < o + cs.length → w'.cell? (cellAt b i) = w.cell? (cellAt b i)) → CellsOk w rd β b o cs → CellsOk w' rd β' b o (cs.map f)
  | [], _, _, _ => trivial
  | v :: vs, o, hc, ⟨⟨u, e, H⟩, H2⟩ => ⟨⟨u, by rw [hc o (by omega) (by simp)]; exact e, hf v u H⟩, CellsOk.mapf hf (fun i h1 h2 => hc i (by omega) (by simp; omega)) H2⟩
theorem BCOk.mapf {w w' : World} {rd : Mem} {f : AV → AV} (hf : ∀ x v, AVRep rd β x v → AVRep rd β' (f x) v) {r : Reg} {c : BC}
    (hc : ∀ i, r.off ≤ i → i < r.off + r.len → w'.cell? (cellAt r.blk i) = w.cell? (cellAt r.blk i)) (H : BCOk w rd β r c) : BCOk w' rd β' r (c.mapf f) := by
  cases c with
  | cells cs => exact ⟨by simpa [BC.mapf] using H.1, H.2.mapf hf (fun i a b => hc i a (by have := H.1; omega))⟩
  | ints k xs => exact H.mono (MemLe.refl _) hc (fun cs e => by cases e)
  | flts xs => exact H.mono (MemLe.refl _) hc (fun cs e => by cases e)
  | recs sz xs => exact H.mono (MemLe.refl _) hc (fun cs e => by cases e)
theorem isNil_mapf (f : AV → AV) (c : BC) : (c.mapf f).isNil = c.isNil := by cases c <;> rfl
theorem Conc.new (h : Conc N w0 rd0 R σ a w rd β) {i : Nat} {b : Bx} (he : b.ext = false) {o : Obj} {r : Reg} (hr : r.blk = w.heap.size) (hwh : r.whole = true)
    {f : AV → AV} (hf : ∀ x v, AVRep rd β x v → AVRep rd (fun j => if j = i then some r else β j) (f x) v)
    (htm : σ'.tm = fun t => f (σ.tm t)) (hbx : ∀ j, σ'.bx j = if j = i then some b else (σ.bx j).map (Bx.mapf f))
    (hc : BCOk (w.alloc o) rd (fun j => if j = i then some r else β j) r b.c) (hp : Phys (w.alloc o) r) :
    Conc N w0 rd0 R σ' a (w.alloc o) rd (fun j => if j = i then some r else β j) where
  size := h.size
  defers := h.defers
  kp := h.kp.below ((Below.refl _ _).alloc (Nat.le_refl _) o)
  oth := oth_below ((Below.refl _ _).alloc (Nat.le_refl _) o) h.oth
  rdm := h.rdm
  rdw := fun ad v e => by rw [World.cell?_alloc_lt _ _ _ (lt_of_cell (h.rdw ad v e))]; exact h.rdw ad v e
  rd0 := h.rd0
  rdo := fun j r' b' hj hx hz ad ha => by
    split at hj
    · simp only [Option.some.injEq] at hj
      subst hj
      cases e : rd ad with
      | none => rfl
      | some v => have := lt_of_cell (h.rdw ad v e); have := ha.1; omega
    · rename_i hji
      rw [hbx, if_neg hji] at hx
      obtain ⟨b0, h0, _⟩ := h.box j r' hj
      rw [h0] at hx
      simp only [Option.map_some, Option.some.injEq] at hx
      subst hx
      exact h.rdo j r' b0 hj h0 hz ad ha
  tms := fun t => by rw [htm]; exact hf _ _ (h.tms t)
  box := fun j r' hj => by
    split at hj
    · rename_i hji
      simp only [Option.some.injEq] at hj
      subst hj
      refine ⟨b, by rw [hbx, if_pos hji], hc, hp, fun _ => ⟨by rw [hr]; exact h.kp.size, hwh⟩, fun e => by rw [he] at e; cases e⟩
    · rename_i hji
      obtain ⟨b0, h0, hc0, hp0, h1, h2⟩ := h.box j r' hj
      have hlt := hp0.lt
      have hbk : (w.alloc o).heap[r'.blk]? = w.heap[r'.blk]? := Below.heap_alloc _ _ _ hlt
      exact ⟨b0.mapf f, by rw [hbx, if_neg hji, h0]; rfl, hc0.mapf hf (fun k _ _ => cell_of_block hbk), hp0.of_block hbk, h1, h2⟩
  nob := fun j b' hx hj => by
    split at hj
    · cases hj
    · rename_i hji
      rw [hbx, if_neg hji] at hx
      cases h0 : σ.bx j with
      | none => rw [h0] at hx; cases hx
      | some b0 =>
        rw [h0] at hx
        simp only [Option.map_some, Option.some.injEq] at hx
        subst hx
        obtain ⟨k1, k2⟩ := h.nob j b0 h0 hj
        exact ⟨k1, by rw [← k2]; exact isNil_mapf f b0.c⟩
  dis := fun j k rj rk hjk hj hk ad ha hb' => by
    split at hj <;> split at hk
    · omega
    · simp only [Option.some.injEq] at hj
      subst hj
      obtain ⟨_, _, _, hp0, _⟩ := h.box k rk hk
      have := hp0.lt
      have := ha.1
      have := hb'.1
      omega
    · simp only [Option.some.injEq] at hk
      subst hk
      obtain ⟨_, _, _, hp0, _⟩ := h.box j rj hj
      have := hp0.lt
      have := ha.1
      have := hb'.1
      omega
    · exact h.dis j k rj rk hjk hj hk ad ha hb'
theorem Conc.newNil (h : Conc N w0 rd0 R σ a w rd β) {i : Nat} {b : Bx} (he : b.ext = false) (hn : b.c.isNil = true)
    {f : AV → AV} (hf : ∀ x v, AVRep rd β x v → AVRep rd (fun j => if j = i then none else β j) (f x) v)
    (htm : σ'.tm = fun t => f (σ.tm t)) (hbx : ∀ j, σ'.bx j = if j = i then some b else (σ.bx j).map (Bx.mapf f)) :
    Conc N w0 rd0 R σ' a w rd (fun j => if j = i then none else β j) where
  size := h.size
  defers := h.defers
  kp := h.kp
  oth := h.oth
  rdw := h.rdw
  rdm := h.rdm
  rd0 := h.rd0
  rdo := fun j r' b' hj hx hz ad ha => by
    split at hj
    · cases hj
    · rename_i hji
      rw [hbx, if_neg hji] at hx
      obtain ⟨b0, h0, _⟩ := h.box j r' hj
      rw [h0] at hx
      simp only [Option.map_some, Option.some.injEq] at hx
      subst hx
      exact h.rdo j r' b0 hj h0 hz ad ha
  tms := fun t => by rw [htm]; exact hf _ _ (h.tms t)
  box := fun j r' hj => by
    split at hj
    · cases hj
    · rename_i hji
      obtain ⟨b0, h0, hc0, hp0, h1, h2⟩ := h.box j r' hj
      exact ⟨b0.mapf f, by rw [hbx, if_neg hji, h0]; rfl, hc0.mapf hf (fun _ _ _ => rfl), hp0, h1, h2⟩
  nob := fun j b' hx hj => by
    split at hj
    · rename_i hji
      rw [hbx, if_pos hji] at hx
      simp only [Option.some.injEq] at hx
      subst hx
      exact ⟨(fun e => by rw [he] at e; cases e), hn⟩
    · rename_i hji
      rw [hbx, if_neg hji] at hx
      cases h0 : σ.bx j with
      | none => rw [h0] at hx; cases hx
      | some b0 =>
        rw [h0] at hx
        simp only [Option.map_some, Option.some.injEq] at hx
        subst hx
        obtain ⟨k1, k2⟩ := h.nob j b0 h0 hj
        exact ⟨k1, by rw [← k2]; exact isNil_mapf f b0.c⟩
  dis := fun j k rj rk hjk hj hk => by
    split at hj
    · cases hj
    · split at hk
      · cases hk
      · exact h.dis j k rj rk hjk hj hk
theorem Conc.store (h : Conc N w0 rd0 R σ a w rd β) {i : Nat} {r : Reg} (hi : β i = some r) {e : Bool} {c c' : BC} (hx : σ.bx i = some ⟨false, e, c⟩)
    {arr arr' : Array Value} {t : TypeId} {fz : Nat × Nat} (hw : w.heap[r.blk]? = some (.cells arr t fz)) (hsz : arr'.size = arr.size)
    (hout : ∀ k, ¬ (r.off ≤ k ∧ k < r.off + r.len) → arr'[k]? = arr[k]?)
    (hc : BCOk { w with heap := w.heap.setIfInBounds r.blk (.cells arr' t fz) } rd β r c') :
    Conc N w0 rd0 R (σ.setb i ⟨false, e, c'⟩) a { w with heap := w.heap.setIfInBounds r.blk (.cells arr' t fz) } rd β := by
  have hlt : r.blk < w.heap.size := by
    rcases Nat.lt_or_ge r.blk w.heap.size with h' | h'
    · exact h'
    · rw [Array.getElem?_eq_none h'] at hw; cases hw
  have hblk : ∀ k, k ≠ r.blk → (w.heap.setIfInBounds r.blk (.cells arr' t fz))[k]? = w.heap[k]? := fun k hk => Array.getElem?_setIfInBounds_ne (Ne.symm hk)
  have hself : (w.heap.setIfInBounds r.blk (.cells arr' t fz))[r.blk]? = some (.cells arr' t fz) := by
    rw [Array.getElem?_setIfInBounds_self_of_lt hlt]
  obtain ⟨b0, h0, hc0, hp0, hl1, hl2⟩ := h.box i r hi
  rw [hx] at h0
  simp only [Option.some.injEq] at h0
  subst h0
  have hcell : ∀ ad : Addr, ¬ r.has ad → World.cell? { w with heap := w.heap.setIfInBounds r.blk (.cells arr' t fz) } ad = w.cell? ad := by
    intro ad had
    unfold World.cell?
    dsimp only
    by_cases hb : ad.block = r.blk
    · rw [hb, hself, hw]
      dsimp only
      split
      · rfl
      · refine hout _ fun hr => had ⟨hb, .inr hr⟩
    · rw [hblk _ hb]
  have hkp : KeepBut R w0.toWorld { w with heap := w.heap.setIfInBounds r.blk (.cells arr' t fz) } := by
    refine ⟨h.kp.os, h.kp.tape, h.kp.output, by simpa using h.kp.size, fun k hk => ?_⟩
    by_cases hb : k = r.blk
    · subst hb
      refine (h.kp.block _ hk).trans ?_
      rw [hself, hw]
      cases e with
      | false => have := (hl1 rfl).1; omega
      | true =>
        refine .inr ⟨arr, t, fz, arr', rfl, rfl, hsz, fun k hk => hout k fun hr => hk i r (hl2 rfl).1 ⟨rfl, .inr hr⟩⟩
    · rw [hblk k hb]; exact h.kp.block k hk
  exact {
    size := h.size
    defers := h.defers
    kp := hkp
    oth := fun k o hk => by
      obtain ⟨h1, h2⟩ := h.oth k o hk
      refine ⟨h1, ?_⟩
      by_cases hb : k = r.blk
      · rw [hb, hw] at h2
        exact absurd (Option.some.inj h2).symm (h1 _ _ _)
      · rw [hblk k hb]; exact h2
    rdm := h.rdm
    rdw := fun ad v hv => by
      rw [hcell ad fun had => by rw [h.rdo i r _ hi hx rfl ad had] at hv; cases hv]
      exact h.rdw ad v hv
    rd0 := h.rd0
    rdo := fun j r' b' hj hb' hz ad ha => by
      by_cases hji : j = i
      · subst hji
        rw [hi] at hj
        simp only [Option.some.injEq] at hj
        subst hj
        exact h.rdo j r _ hi hx rfl ad ha
      · refine h.rdo j r' b' hj ?_ hz ad ha
        simpa [St.setb, updb, hji] using hb'
    tms := h.tms
    box := fun j r' hj => by
      by_cases hji : j = i
      · subst hji
        rw [hi] at hj
        simp only [Option.some.injEq] at hj
        subst hj
        refine ⟨⟨false, e, c'⟩, by simp [St.setb, updb], hc, ?_, hl1, hl2⟩
        obtain ⟨arr0, t0, fz0, k0, k1, k2, k3⟩ := hp0
        rw [hw] at k0
        simp only [Option.some.injEq, Obj.cells.injEq] at k0
        obtain ⟨rfl, rfl, rfl⟩ := k0
        exact ⟨arr', t, fz, hself, by rw [hsz]; exact k1, k2, fun hw' => ⟨(k3 hw').1, by rw [hsz]; exact (k3 hw').2.1, (k3 hw').2.2⟩⟩
      · obtain ⟨b1, x1, c1, p1, l1, l2⟩ := h.box j r' hj
        refine ⟨b1, by simpa [St.setb, updb, hji] using x1, ?_, ?_, l1, l2⟩
        · refine c1.mono (MemLe.refl _) (fun k hk1 hk2 => hcell _ fun had => h.dis i j r r' (Ne.symm hji) hi hj _ had ⟨rfl, .inr ⟨hk1, hk2⟩⟩) (fun _ _ _ _ _ H => H)
        · by_cases hb : r'.blk = r.blk
          · obtain ⟨arr0, t0, fz0, k0, k1, k2, k3⟩ := p1
            rw [hb, hw] at k0
            simp only [Option.some.injEq, Obj.cells.injEq] at k0
            obtain ⟨rfl, rfl, rfl⟩ := k0
            exact ⟨arr', t, fz, by rw [hb]; exact hself, by rw [hsz]; exact k1, k2, fun hw' => ⟨(k3 hw').1, by rw [hsz]; exact (k3 hw').2.1, (k3 hw').2.2⟩⟩
          · exact p1.of_block (hblk _ hb)
    nob := fun j b' hb' hj => by
      by_cases hji : j = i
      · subst hji; rw [hi] at hj; cases hj
      · exact h.nob j b' (by simpa [St.setb, updb, hji] using hb') hj
    dis := h.dis }
def Places (β : BM) (vs : List AV) (ad : Addr) : Prop := ∃ i r, AV.hasL i vs = true ∧ β i = some r ∧ r.has ad
theorem frz_bx (σ : St) (i j : Nat) : (σ.frz i).bx j = bif i == j then (σ.bx j).map (fun b => ⟨true, b.ext, b.c⟩) else σ.bx j := by
  by_cases e : j = i
  · subst e; simp [St.frz]
  · have : (i == j) = false := by simp; omega
    simp [St.frz, e, this]
mutual
theorem frzAV_bx (σ : St) : ∀ (v : AV) (j : Nat), (frzAV σ v).bx j = bif v.has j then (σ.bx j).map (fun b => ⟨true, b.ext, b.c⟩) else σ.bx j
  | .d _, j => by simp [frzAV, AV.has]
  | .agg cs, j => by simpa [frzAV, AV.has] using frzL_bx σ cs j
  | .box i _, j => frz_bx σ i j
  | .own i _ _, j => frz_bx σ i j
  | .elt i _ _, j => frz_bx σ i j
  | .clo _ x y, j => by
    simp only [frzAV, AV.has]
    rw [frzL_bx (frzL σ x) y j, frzL_bx σ x j]
    cases h1 : AV.hasL j x <;> cases h2 : AV.hasL j y <;> simp
    cases σ.bx j <;> rfl
  | .yld _, j => by simp [frzAV, AV.has]
  | .und, j => by simp [frzAV, AV.has]
  | .any, j => by simp [frzAV, AV.has]
theorem frzL_bx (σ : St) : ∀ (vs : List AV) (j : Nat), (frzL σ vs).bx j = bif AV.hasL j vs then (σ.bx j).map (fun b => ⟨true, b.ext, b.c⟩) else σ.bx j
  | [], j => by simp [frzL, AV.hasL]
  | v :: vs, j => by
    rw [frzL, frzL_bx (frzAV σ v) vs j, frzAV_bx σ v j]
    simp only [AV.hasL]
    cases h1 : v.has j <;> cases h2 : AV.hasL j vs <;> simp
    cases σ.bx j <;> rfl
end
mutual
theorem frzAV_tm (σ : St) : ∀ (v : AV), (frzAV σ v).tm = σ.tm
  | .d _ => rfl
  | .agg cs => by simpa [frzAV] using frzL_tm σ cs
  | .box i _ => rfl
  | .own i _ _ => rfl
  | .elt i _ _ => rfl
  | .clo _ x y => by rw [frzAV, frzL_tm (frzL σ x) y, frzL_tm σ x]
  | .yld _ => rfl
  | .und => rfl
  | .any => rfl
theorem frzL_tm (σ : St) : ∀ (vs : List AV), (frzL σ vs).tm = σ.tm
  | [] => rfl
  | v :: vs => by rw [frzL, frzL_tm (frzAV σ v) vs, frzAV_tm σ v]
end
mutual
theorem loc_has {σ : St} : ∀ (v : AV), locAV σ v = true → ∀ j b, v.has j = true → σ.bx j = some b → b.ext = false
  | .d _, _, _, _, h, _ => by simp [AV.has] at h
  | .agg cs, hl, j, b, h, hb => locL_has cs (by simpa [locAV] using hl) j b (by simpa [AV.has] using h) hb
  | .box i _, hl, j, b, h, hb => by
    simp only [AV.has, beq_iff_eq] at h; subst h
    simp only [locAV, hb] at hl; simpa using hl
  | .own i _ _, hl, j, b, h, hb => by
    simp only [AV.has, beq_iff_eq] at h; subst h
    simp only [locAV, hb] at hl; simpa using hl
  | .elt i _ _, hl, j, b, h, hb => by
    simp only [AV.has, beq_iff_eq] at h; subst h
    simp only [locAV, hb] at hl; simpa using hl
  | .clo _ x y, hl, j, b, h, hb => by
    simp only [locAV, Bool.and_eq_true] at hl
    simp only [AV.has, Bool.or_eq_true] at h
    rcases h with h | h
    · exact locL_has x hl.1 j b h hb
    · exact locL_has y hl.2 j b h hb
  | .yld _, _, _, _, h, _ => by simp [AV.has] at h
  | .und, _, _, _, h, _ => by simp [AV.has] at h
  | .any, _, _, _, h, _ => by simp [AV.has] at h
theorem locL_has {σ : St} : ∀ (vs : List AV), locL σ vs = true → ∀ j b, AV.hasL j vs = true → σ.bx j = some b → b.ext = false
  | [], _, _, _, h, _ => by simp [AV.hasL] at h
  | v :: vs, hl, j, b, h, hb => by
    simp only [locL, Bool.and_eq_true] at hl
    simp only [AV.hasL, Bool.or_eq_true] at h
    rcases h with h | h
    · exact loc_has v hl.1 j b h hb
    · exact locL_has vs hl.2 j b h hb
end
theorem Conc.frz (h : Conc N w0 rd0 R σ a w rd β) {vs : List AV} (hl : locL σ vs = true) : Conc N w0 rd0 R (frzL σ vs) a w (plus w (Places β vs) rd) β where
  size := h.size
  defers := h.defers
  kp := h.kp
  oth := h.oth
  rdw := plus_le h.rdw
  rdm := h.rdm.trans (le_plus _ _ _)
  rd0 := fun ad v e hb => by
    by_cases hs : Places β vs ad
    · obtain ⟨i, r, hi, hr, ha⟩ := hs
      obtain ⟨b, hx, _, _, hl1, _⟩ := h.box i r hr
      have := (hl1 (locL_has vs hl i b hi hx)).1
      have := ha.1
      omega
    · rw [plus_off hs] at e; exact h.rd0 ad v e hb
  rdo := fun i r b hi hx hz ad ha => by
    rw [frzL_bx] at hx
    cases hni : AV.hasL i vs with
    | true =>
      rw [hni] at hx
      cases hb : σ.bx i with
      | none => rw [hb] at hx; cases hx
      | some b0 => rw [hb] at hx; simp only [cond_true, Option.map_some, Option.some.injEq] at hx; subst hx; cases hz
    | false =>
      rw [hni] at hx
      rw [plus_off]
      · exact h.rdo i r b hi hx hz ad ha
      · rintro ⟨j, rj, hj, hrj, haj⟩
        by_cases e : j = i
        · subst e; rw [hj] at hni; cases hni
        · exact h.dis j i rj r e hrj hi ad haj ha
  tms := fun t => by rw [frzL_tm]; exact (h.tms t).mono (le_plus _ _ _)
  box := fun i r hi => by
    obtain ⟨b, hx, hc, hp, hl1, hl2⟩ := h.box i r hi
    have hc' : BCOk w (plus w (Places β vs) rd) β r b.c := hc.mono (le_plus _ _ _) (fun _ _ _ => rfl) (fun _ _ v _ u H => AVRep.mono (le_plus _ _ _) v u H)
    rw [frzL_bx, hx]
    cases AV.hasL i vs
    · exact ⟨b, rfl, hc', hp, hl1, hl2⟩
    · exact ⟨⟨true, b.ext, b.c⟩, rfl, hc', hp, hl1, hl2⟩
  nob := fun i b hx hi => by
    rw [frzL_bx] at hx
    cases hni : AV.hasL i vs with
    | true =>
      rw [hni] at hx
      cases hb : σ.bx i with
      | none => rw [hb] at hx; cases hx
      | some b0 =>
        rw [hb] at hx; simp only [cond_true, Option.map_some, Option.some.injEq] at hx; subst hx
        exact h.nob i b0 hb hi
    | false => rw [hni] at hx; exact h.nob i b hx hi
  dis := h.dis
end
end RV
namespace RV
open Go Go.RowKit
section
variable {N : Nat} {w0 : Base} {rd0 : Mem} {R : BM} {σ σ' : St} {a : Act} {w : World} {rd : Mem} {β β' : BM} {P : Program}
theorem RepL_length {rd : Mem} : ∀ {ds : List D} {vs : List Value}, RepL rd ds vs → vs.length = ds.length
  | [], _, H => by simp only [RepL] at H; simp [H]
  | d :: ds, _, H => by
    simp only [RepL] at H
    obtain ⟨v, us, e, _, h2⟩ := H
    simp [e, RepL_length h2]
theorem AVRepL_of_d {rd : Mem} : ∀ {ds : List D} {vs : List Value}, RepL rd ds vs → AVRepL rd β (ds.map .d) vs
  | [], _, H => by simpa only [RepL, List.map_nil, AVRepL] using H
  | d :: ds, _, H => by
    simp only [RepL] at H
    obtain ⟨v, us, e, h1, h2⟩ := H
    simp only [List.map_cons, AVRepL]
    exact ⟨v, us, e, by simpa only [AVRep] using h1, AVRepL_of_d h2⟩
theorem ofD_rep {rd : Mem} {d : D} {u : Value} (h : Rep rd d u) : AVRep rd β (ofD d) u := by
  cases d <;> simp only [ofD, AVRep] <;> try exact h
  rename_i cs
  simp only [Rep] at h
  obtain ⟨vs, e, H⟩ := h
  exact ⟨vs, e, AVRepL_of_d H⟩
theorem constD_rep {rd : Mem} {t : TypeId} {v : Value} {d : D} (h : constD P t v = some d) : Rep rd d v := by
  unfold constD at h
  split at h
  · simp only [Option.some.injEq] at h; subst h; simp only [Rep]
  · simp only [Option.some.injEq] at h; subst h; simp only [Rep]
  · split at h
    · cases h
    · rename_i b hb
      simp only [Option.some.injEq] at h; subst h
      simp only [Rep]
      exact ⟨b, rfl, by simp [fcanon, hb]⟩
  · cases hk : ekT P t with
    | none => rw [hk] at h; cases h
    | some k =>
      rw [hk] at h
      simp only [Option.map_some, Option.some.injEq] at h
      subst h
      cases k <;> simp only [EK.empty, Rep, List.length_nil] <;> exact ⟨none, 0, rfl, Nat.le_refl _, .inl trivial⟩
  · simp only [Option.some.injEq] at h; subst h; simp only [Rep]
  · simp only [Option.some.injEq] at h; subst h; simp only [Rep]
  · cases h
theorem constDs_rep {rd : Mem} : ∀ {ts : List TypeId} {vs : List Value} {ds : List D}, constDs P ts vs = some ds → RepL rd ds vs
  | [], [], ds, h => by simp only [constDs, Option.some.injEq] at h; subst h; simp only [RepL]
  | [], _ :: _, _, h => by simp [constDs] at h
  | _ :: _, [], _, h => by simp [constDs] at h
  | t :: ts, v :: vs, ds, h => by
    simp only [constDs] at h
    split at h
    · rename_i d ds' h1 h2
      simp only [Option.some.injEq] at h; subst h
      simp only [RepL]
      exact ⟨v, vs, rfl, constD_rep h1, constDs_rep h2⟩
    · cases h
theorem transV_rep (h : Conc N w0 rd0 R σ a w rd β) {t : TypeId} {x : Operand} {l : LV} (ht : transV P t x = some l) : AVRep rd β (σ.lv l) (a.eval x) := by
  unfold transV at ht
  split at ht
  · simp only [Option.some.injEq] at ht; subst ht; exact h.tms _
  · simp only [Option.some.injEq] at ht; subst ht
    simp only [St.lv, ofD, AVRep, Act.eval, Rep]
    exact ⟨#[], #[], rfl, by simp only [RepL], by simp only [RepL]⟩
  · rename_i cs
    split at ht
    · rename_i ts _
      cases hc : constDs P ts cs.toList with
      | none => rw [hc] at ht; cases ht
      | some ds =>
        rw [hc] at ht
        simp only [Option.map_some, Option.some.injEq] at ht; subst ht
        show AVRep rd β (ofD (.agg ds)) (.agg cs)
        refine ofD_rep ?_
        simp only [Rep]
        exact ⟨cs, rfl, constDs_rep hc⟩
    · cases ht
  · rename_i v _
    cases hc : constD P t v with
    | none => rw [hc] at ht; cases ht
    | some d =>
      rw [hc] at ht
      simp only [Option.map_some, Option.some.injEq] at ht; subst ht
      show AVRep rd β (ofD d) v
      exact ofD_rep (constD_rep hc)
  · cases ht
theorem transS_rep (h : Conc N w0 rd0 R σ a w rd β) {x : Operand} {l : LV} (ht : transS P x = some l) : AVRep rd β (σ.lv l) (a.eval x) := by
  unfold transS at ht
  split at ht
  · cases ht
  · cases ht
  · exact transV_rep h ht
theorem transVs_rep (h : Conc N w0 rd0 R σ a w rd β) : ∀ {ts : List TypeId} {xs : List Operand} {ls : List LV}, transVs P ts xs = some ls → AVRepL rd β (lvs σ ls) (xs.map a.eval)
  | _, [], ls, ht => by
    cases ‹List TypeId› <;> simp only [transVs, Option.some.injEq] at ht <;> subst ht <;> simp only [lvs, List.map_nil, AVRepL]
  | [], x :: xs, ls, ht => by simp [transVs] at ht
  | t :: ts, x :: xs, ls, ht => by
    simp only [transVs] at ht
    split at ht
    · rename_i v vs h1 h2
      simp only [Option.some.injEq] at ht; subst ht
      simp only [lvs, List.map_cons, AVRepL]
      exact ⟨_, _, rfl, transV_rep h h1, transVs_rep h h2⟩
    · cases ht
theorem RepInts.sub {m : Mem} {k : IntKind} {b : Nat} : ∀ {xs : List Int} {o lo : Nat} (n : Nat), RepInts m k b o xs → RepInts m k b (o + lo) ((xs.drop lo).take n)
  | [], o, lo, n, _ => by simp [RepInts]
  | x :: xs, o, 0, 0, _ => by simp [RepInts]
  | x :: xs, o, 0, n + 1, ⟨h1, h2⟩ => by
    have := RepInts.sub (lo := 0) n h2
    simp only [List.drop_zero, List.take_succ_cons, Nat.add_zero] at this ⊢
    exact ⟨h1, this⟩
  | x :: xs, o, lo + 1, n, ⟨_, h2⟩ => by
    have := RepInts.sub (lo := lo) n h2
    simpa [Nat.add_assoc, Nat.add_comm 1 lo] using this
theorem RepFlts.sub {m : Mem} {b : Nat} : ∀ {xs : List Nat} {o lo : Nat} (n : Nat), RepFlts m b o xs → RepFlts m b (o + lo) ((xs.drop lo).take n)
  | [], o, lo, n, _ => by simp [RepFlts]
  | x :: xs, o, 0, 0, _ => by simp [RepFlts]
  | x :: xs, o, 0, n + 1, ⟨h1, h2⟩ => by
    have := RepFlts.sub (lo := 0) n h2
    simp only [List.drop_zero, List.take_succ_cons, Nat.add_zero] at this ⊢
    exact ⟨h1, this⟩
  | x :: xs, o, lo + 1, n, ⟨_, h2⟩ => by
    have := RepFlts.sub (lo := lo) n h2
    simpa [Nat.add_assoc, Nat.add_comm 1 lo] using this
theorem DCells.repAt {b : Nat} {S : Addr → Prop} (hm : MemLe rd w.cell?) : ∀ {ds : List D} {o : Nat}, (∀ i, o ≤ i → i < o + ds.length → S (cellAt b i)) → DCells w rd b o ds → RepAt (plus w S rd) b o ds
  | [], _, _, _ => by simp only [RepAt]
  | d :: ds, o, hs, ⟨⟨u, e, H⟩, H2⟩ => by
    simp only [RepAt]
    exact ⟨⟨u, by rw [plus_at hm (hs o (by omega) (by simp))]; exact e, H.mono (le_plus _ _ _) d u⟩, DCells.repAt hm (fun i h1 h2 => hs i (by omega) (by simp; omega)) H2⟩
theorem RowsOk.sub {b sz : Nat} : ∀ {xs : List (List D)} {o lo : Nat} (n : Nat), RowsOk w rd b sz o xs → RowsOk w rd b sz (o + lo * sz) ((xs.drop lo).take n)
  | [], o, lo, n, _ => by simp [RowsOk]
  | x :: xs, o, 0, 0, _ => by simp [RowsOk]
  | x :: xs, o, 0, n + 1, ⟨h0, h1, h2⟩ => by
    have := RowsOk.sub (lo := 0) n h2
    simp only [List.drop_zero, List.take_succ_cons, Nat.zero_mul, Nat.add_zero] at this ⊢
    exact ⟨h0, h1, this⟩
  | x :: xs, o, lo + 1, n, ⟨_, _, h2⟩ => by
    have := RowsOk.sub (lo := lo) n h2
    have e : o + (lo + 1) * sz = o + sz + lo * sz := by rw [Nat.succ_mul]; omega
    rw [e]
    simpa using this
theorem RowsOk.repRows {b sz : Nat} {S : Addr → Prop} (hm : MemLe rd w.cell?) : ∀ {rs : List (List D)} {o : Nat}, (∀ i, o ≤ i → i < o + rs.length * sz → S (cellAt b i)) → RowsOk w rd b sz o rs → RepRows (plus w S rd) b sz o rs
  | [], _, _, _ => by simp only [RepRows]
  | r :: rs, o, hs, ⟨h1, h2, h3⟩ => by
    have e : (r :: rs).length * sz = sz + rs.length * sz := by simp [Nat.succ_mul]; omega
    rw [e] at hs
    simp only [RepRows]
    exact ⟨h1, h2.repAt hm fun i a b => hs i a (by omega), h3.repRows hm fun i a b => hs i (by omega) (by omega)⟩
theorem CellsOk.repAt {b : Nat} {S : Addr → Prop} (hm : MemLe rd w.cell?) : ∀ {cs : List AV} {ds : List D} {o : Nat}, cellsD cs = some ds → (∀ i, o ≤ i → i < o + cs.length → S (cellAt b i)) → CellsOk w rd β b o cs → RepAt (plus w S rd) b o ds
  | [], ds, o, hd, _, _ => by simp only [cellsD, Option.some.injEq] at hd; subst hd; simp only [RepAt]
  | c :: cs, ds, o, hd, hs, ⟨⟨u, e, H⟩, H2⟩ => by
    simp only [cellsD] at hd
    split at hd
    · rename_i d ds' h1 h2
      simp only [Option.some.injEq] at hd; subst hd
      cases c <;> simp only [AV.cellD, Option.some.injEq, reduceCtorEq] at h1
      subst h1
      simp only [RepAt]
      simp only [AVRep] at H
      exact ⟨⟨u, by rw [plus_at hm (hs o (by omega) (by simp))]; exact e, H.mono (le_plus _ _ _) _ u⟩, CellsOk.repAt hm h2 (fun i h1 h2 => hs i (by omega) (by simp; omega)) H2⟩
    · cases hd
theorem part_rep (h : Conc N w0 rd0 R σ a w rd β) {i lo n : Nat} {b : Bx} (hb : σ.bx i = some b) {d : D} (hd : b.c.part lo n = some d) {u : Value} (hu : AVRep rd β (.own i lo n) u)
    {S : Addr → Prop} (hs : ∀ r ad, β i = some r → r.has ad → S ad) : Rep (plus w S rd) d u := by
  simp only [AVRep] at hu
  obtain ⟨A, cap, rfl, hn, hA⟩ := hu
  have fin : ∀ r, β i = some r → A = some (cellAt r.blk (r.off + lo * r.sz)) → Rep (plus w S rd) d (.slice A n cap) := by
    intro r hr hA
    obtain ⟨b', hb', hc, hp, _⟩ := h.box i r hr
    rw [hb] at hb'
    simp only [Option.some.injEq] at hb'
    subst hb'
    have hS : ∀ k, r.off ≤ k → k < r.off + r.len → plus w S rd (cellAt r.blk k) = w.cell? (cellAt r.blk k) := fun k h1 h2 => plus_at h.rdw (hs r _ hr ⟨rfl, .inr ⟨h1, h2⟩⟩)
    cases hbc : b.c with
    | cells cs => rw [hbc] at hd; simp [BC.part] at hd
    | ints k xs =>
      rw [hbc] at hd hc
      simp only [BC.part] at hd
      split at hd
      · rename_i hle
        simp only [Option.some.injEq] at hd; subst hd
        simp only [Rep]
        have hl : ((xs.drop lo).take n).length = n := by simp; omega
        rw [hl]
        refine ⟨A, cap, rfl, hn, .inr ⟨_, _, hA, ?_⟩⟩
        have := hc.2.2.sub (lo := lo) n
        rw [hc.1, Nat.mul_one]
        exact this.cells fun k h1 h2 => hS k (by omega) (by have := hc.2.1; rw [hl] at h2; omega)
      · cases hd
    | flts xs =>
      rw [hbc] at hd hc
      simp only [BC.part] at hd
      split at hd
      · rename_i hle
        simp only [Option.some.injEq] at hd; subst hd
        simp only [Rep]
        have hl : ((xs.drop lo).take n).length = n := by simp; omega
        rw [hl]
        refine ⟨A, cap, rfl, hn, .inr ⟨_, _, hA, ?_⟩⟩
        have := hc.2.2.sub (lo := lo) n
        rw [hc.1, Nat.mul_one]
        exact this.cells fun k h1 h2 => hS k (by omega) (by have := hc.2.1; rw [hl] at h2; omega)
      · cases hd
    | recs sz xs =>
      rw [hbc] at hd hc
      simp only [BC.part] at hd
      split at hd
      · rename_i hle
        simp only [Option.some.injEq] at hd; subst hd
        simp only [Rep]
        have hl : ((xs.drop lo).take n).length = n := by simp; omega
        rw [hl]
        refine ⟨A, cap, rfl, hn, .inr ⟨_, _, hA, ?_⟩⟩
        rw [hc.1]
        have := hc.2.2.sub (lo := lo) n
        refine this.repRows h.rdw fun k h1 h2 => hs r _ hr ⟨rfl, .inr ⟨by show r.off ≤ k; omega, ?_⟩⟩
        rw [hl] at h2
        have h3 : lo * sz + n * sz ≤ xs.length * sz := by rw [← Nat.add_mul]; exact Nat.mul_le_mul_right _ hle
        have := hc.2.1
        show k < r.off + r.len
        omega
      · cases hd
  rcases hA with ⟨rfl, rfl⟩ | ⟨r, hr, hA, _⟩
  · cases hbc : b.c with
    | cells cs => rw [hbc] at hd; simp [BC.part] at hd
    | _ =>
      rw [hbc] at hd
      simp only [BC.part] at hd
      split at hd
      · simp only [Option.some.injEq] at hd; subst hd
        simp only [Rep, List.take_zero, List.length_nil]
        exact ⟨A, 0, rfl, Nat.le_refl _, .inl trivial⟩
      · cases hd
  · exact fin r hr hA
mutual
theorem toD_rep (h : Conc N w0 rd0 R σ a w rd β) {S : Addr → Prop} : ∀ (v : AV) (u : Value) (d : D), toD σ v = some d → AVRep rd β v u → (∀ i r ad, v.has i = true → β i = some r → r.has ad → S ad) → Rep (plus w S rd) d u
  | .d x, u, d, hd, hu, _ => by
    simp only [toD, Option.some.injEq] at hd; subst hd
    simp only [AVRep] at hu
    exact hu.mono (le_plus _ _ _) _ _
  | .agg cs, u, d, hd, hu, hs => by
    simp only [toD] at hd
    split at hd
    · rename_i ds hds
      simp only [Option.some.injEq] at hd; subst hd
      simp only [AVRep] at hu
      obtain ⟨vs, rfl, H⟩ := hu
      simp only [Rep]
      exact ⟨vs, rfl, toDs_rep h cs _ _ hds H fun i r ad hi => hs i r ad (by simpa only [AV.has] using hi)⟩
    · cases hd
  | .own i lo n, u, d, hd, hu, hs => by
    simp only [toD] at hd
    split at hd
    · rename_i b hb
      exact part_rep h hb hd hu fun r ad => hs i r ad (by simp [AV.has])
    · cases hd
  | .box i off, u, d, hd, hu, hs => by
    cases off with
    | succ n => simp [toD] at hd
    | zero =>
      simp only [toD] at hd
      split at hd
      · rename_i fz ex cs hb
        split at hd
        · rename_i ds hds
          simp only [Option.some.injEq] at hd; subst hd
          simp only [AVRep] at hu
          obtain ⟨r, hr, rfl⟩ := hu
          obtain ⟨b', hb', hc, hp, _⟩ := h.box i r hr
          rw [hb] at hb'
          simp only [Option.some.injEq] at hb'
          subst hb'
          simp only [Rep]
          refine ⟨_, _, rfl, ?_⟩
          exact CellsOk.repAt h.rdw hds (fun k h1 h2 => hs i r _ (by simp [AV.has]) hr ⟨rfl, .inr ⟨h1, by have := hc.1; show k < r.off + r.len; omega⟩⟩) hc.2
        · cases hd
      · cases hd
  | .clo f x y, u, d, hd, hu, hs => by
    simp only [toD] at hd
    split at hd
    · rename_i d1 d2 h1 h2
      simp only [Option.some.injEq] at hd; subst hd
      simp only [AVRep] at hu
      obtain ⟨vf, vc, rfl, H1, H2⟩ := hu
      simp only [Rep]
      exact ⟨vf, vc, rfl, toDs_rep h x _ _ h1 H1 fun i r ad hi => hs i r ad (by simp [AV.has, hi]), toDs_rep h y _ _ h2 H2 fun i r ad hi => hs i r ad (by simp [AV.has, hi])⟩
    · cases hd
  | .elt _ _ _, _, _, hd, _, _ => by simp [toD] at hd
  | .yld _, _, _, hd, _, _ => by simp [toD] at hd
  | .und, _, _, hd, _, _ => by simp [toD] at hd
  | .any, _, _, hd, _, _ => by simp [toD] at hd
theorem toDs_rep (h : Conc N w0 rd0 R σ a w rd β) {S : Addr → Prop} : ∀ (vs : List AV) (us : List Value) (ds : List D), toDs σ vs = some ds → AVRepL rd β vs us → (∀ i r ad, AV.hasL i vs = true → β i = some r → r.has ad → S ad) → RepL (plus w S rd) ds us
  | [], us, ds, hd, hu, _ => by
    simp only [toDs, Option.some.injEq] at hd; subst hd
    simpa only [AVRepL, RepL] using hu
  | v :: vs, us, ds, hd, hu, hs => by
    simp only [toDs] at hd
    split at hd
    · rename_i d ds' h1 h2
      simp only [Option.some.injEq] at hd; subst hd
      simp only [AVRepL] at hu
      obtain ⟨u, us', rfl, H1, H2⟩ := hu
      simp only [RepL]
      exact ⟨u, us', rfl, toD_rep h v u d h1 H1 fun i r ad hi => hs i r ad (by simp [AV.hasL, hi]), toDs_rep h vs us' ds' h2 H2 fun i r ad hi => hs i r ad (by simp [AV.hasL, hi])⟩
    · cases hd
end
end
end RV
namespace RV
open Go Go.RowKit
section
variable {N : Nat} {w0 : Base} {rd0 : Mem} {R : BM} {σ σ' : St} {a : Act} {w : World} {rd : Mem} {β β' : BM} {P : Program} {Γ : Env}
theorem run_under {t : TypeId} {d : TypeDesc} (h : P.underlying t = some d) (w : World) : (underlying t).run P w = .ok d w := by
  simp [underlying, h]
theorem run_info {t : TypeId} {i : TypeInfo} (h : P.info? t = some i) (w : World) : (typeInfo t).run P w = .ok i w := by
  simp [typeInfo, h]
theorem run_size {t : TypeId} {n : Nat} (h : sizeT P t = some n) (w : World) : (Go.sizeOf t).run P w = .ok n w := by
  unfold sizeT at h
  cases hi : P.info? t with
  | none => rw [hi] at h; cases h
  | some i => rw [hi] at h; simp at h; subst h; simp [Go.sizeOf, run_info hi]
theorem varT_size {t : TypeId} {n : Nat} {g : Bool} (h : varT P t = some (n, g)) : sizeT P t = some n := by
  unfold varT at h
  unfold sizeT
  split at h
  · rename_i hi; simp only [Option.some.injEq, Prod.mk.injEq] at h; rw [hi, ← h.1]; rfl
  · rename_i hi; simp only [Option.some.injEq, Prod.mk.injEq] at h; rw [hi, ← h.1]; rfl
  · rename_i hi
    split at h
    · rename_i h1; simp only [Option.some.injEq, Prod.mk.injEq] at h; rw [hi, ← h.1]; simp [h1]
    · cases h
  · cases h
theorem varT_one {t : TypeId} {n : Nat} (h : varT P t = some (n, false)) : n = 1 := by
  unfold varT at h
  split at h
  · simp at h
  · simp at h
  · split at h
    · simp only [Option.some.injEq, Prod.mk.injEq] at h; exact h.1.symm
    · cases h
  · cases h
theorem run_isAgg {t : TypeId} {n : Nat} {g : Bool} (h : varT P t = some (n, g)) (w : World) : (isAgg t).run P w = .ok g w := by
  unfold varT at h
  split at h
  · rename_i hu _; simp only [Option.some.injEq, Prod.mk.injEq] at h; simp [isAgg, run_under hu, ← h.2]
  · rename_i hu _; simp only [Option.some.injEq, Prod.mk.injEq] at h; simp [isAgg, run_under hu, ← h.2]
  · rename_i d i h1 h2 hu _
    split at h
    · simp only [Option.some.injEq, Prod.mk.injEq] at h
      have e := h.2
      cases d <;> first
        | exact (h1 _ rfl).elim
        | exact (h2 _ _ rfl).elim
        | simp [isAgg, run_under hu, ← e]
    · cases h
  · cases h
theorem add_cellAt (b o i : Nat) : (cellAt b o).add i = cellAt b (o + i) := by
  unfold Addr.add cellAt
  split
  · rename_i h; simp [h]
  · rfl
def Yields (P : Program) (N : Nat) (w0 : Base) (rd0 : Mem) (R : BM) (σ : St) (a : Act) (w : World) (β : BM) (s : Sem Value) (K : AV → Prop) : Prop :=
  ∃ av u w' rd', K av ∧ Conc N w0 rd0 R σ a w' rd' β ∧ AVRep rd' β av u ∧ s.run P w = .ok u w'
theorem Yields.here {s : Sem Value} {K : AV → Prop} (h : Conc N w0 rd0 R σ a w rd β) {av : AV} {u : Value} (hk : K av) (hr : AVRep rd β av u) (hs : s.run P w = .ok u w) :
    Yields P N w0 rd0 R σ a w β s K := ⟨av, u, w, rd, hk, h, hr, hs⟩
theorem run_loadCells_of {b : Nat} : ∀ (n o i : Nat) (acc : Array Value) (us : List Value), us.length = n → (∀ j, j < n → w.cell? (cellAt b (o + i + j)) = us[j]?) →
    (loadCellsFrom (cellAt b o) i n acc).run P w = .ok (acc ++ us.toArray) w
  | 0, o, i, acc, us, hl, _ => by
    have : us = [] := List.eq_nil_of_length_eq_zero hl
    subst this
    simp [loadCellsFrom]
  | n + 1, o, i, acc, [], hl, _ => by simp at hl
  | n + 1, o, i, acc, u :: us, hl, hc => by
    have h0 := hc 0 (by omega)
    simp only [Nat.add_zero, List.getElem?_cons_zero] at h0
    have ih := run_loadCells_of n o (i + 1) (acc.push u) us (by simpa using hl) (fun j hj => by
      have := hc (j + 1) (by omega)
      rw [List.getElem?_cons_succ] at this
      rw [← this]; congr 2; omega)
    simp only [loadCellsFrom, Sem.run_bind, add_cellAt, run_load, h0, Result.andThen_ok]
    rw [ih]
    simp
theorem CellsOk.vals {b : Nat} : ∀ {cs : List AV} {o : Nat}, CellsOk w rd β b o cs → ∃ us : List Value, AVRepL rd β cs us ∧ us.length = cs.length ∧ ∀ j, j < cs.length → w.cell? (cellAt b (o + j)) = us[j]?
  | [], _, _ => ⟨[], by simp only [AVRepL], rfl, fun j hj => by simp at hj⟩
  | c :: cs, o, ⟨⟨u, e, H⟩, H2⟩ => by
    obtain ⟨us, h1, h2, h3⟩ := CellsOk.vals H2
    refine ⟨u :: us, by simp only [AVRepL]; exact ⟨u, us, rfl, H, h1⟩, by simp [h2], fun j hj => ?_⟩
    cases j with
    | zero => simpa using e
    | succ j => rw [List.getElem?_cons_succ, ← h3 j (by simpa using hj)]; congr 2; omega
theorem CellsOk.drop {b : Nat} : ∀ {cs : List AV} {o : Nat} (k : Nat), CellsOk w rd β b o cs → CellsOk w rd β b (o + k) (cs.drop k)
  | cs, o, 0, h => by simpa using h
  | [], o, k + 1, _ => by simp [CellsOk]
  | c :: cs, o, k + 1, ⟨_, h⟩ => by
    have := CellsOk.drop k h
    simpa [Nat.add_assoc, Nat.add_comm 1 k] using this
theorem CellsOk.take {b : Nat} : ∀ {cs : List AV} {o : Nat} (k : Nat), CellsOk w rd β b o cs → CellsOk w rd β b o (cs.take k)
  | cs, o, 0, _ => by simp [CellsOk]
  | [], o, k + 1, _ => by simp [CellsOk]
  | c :: cs, o, k + 1, ⟨h0, h⟩ => by
    simp only [List.take_succ_cons, CellsOk]
    exact ⟨h0, CellsOk.take k h⟩
theorem CellsOk.get {b : Nat} {cs : List AV} {o k : Nat} (h : CellsOk w rd β b o cs) {v : AV} (hv : cs[k]? = some v) : ∃ u, w.cell? (cellAt b (o + k)) = some u ∧ AVRep rd β v u := by
  have hk : k < cs.length := by
    rcases Nat.lt_or_ge k cs.length with h | h
    · exact h
    · rw [List.getElem?_eq_none h] at hv; cases hv
  have h2 := h.drop k
  have e : cs.drop k = v :: cs.drop (k + 1) := by
    rw [List.drop_eq_getElem_cons hk]
    rw [List.getElem?_eq_getElem hk] at hv
    simp only [Option.some.injEq] at hv
    rw [hv]
  rw [e] at h2
  exact h2.1
theorem load_cells {t : TypeId} {n : Nat} {g : Bool} (ht : varT P t = some (n, g)) {b o : Nat} {cs : List AV} (h : CellsOk w rd β b o cs) (hl : cs.length = n) :
    ∃ u, (Instr.loadAt t (.pointer (some (cellAt b o)))).run P w = .ok u w ∧ (g = true → AVRep rd β (.agg cs) u) ∧ (g = false → ∀ c, cs = [c] → AVRep rd β c u) := by
  obtain ⟨us, h1, h2, h3⟩ := h.vals
  cases g with
  | true =>
    refine ⟨.agg us.toArray, ?_, fun _ => by simp only [AVRep]; exact ⟨us.toArray, rfl, by simpa using h1⟩, (fun e => by cases e)⟩
    have hr := run_loadCells_of (P := P) (w := w) (b := b) n o 0 #[] us (by omega) (fun j hj => by simpa using h3 j (by omega))
    simp only [Instr.loadAt, Instr.sureAddr, loadVar, Sem.run_bind, Sem.run_pure, Result.andThen_ok, run_isAgg ht, if_true, run_size (varT_size ht), loadCells, hr]
    simp
  | false =>
    have hn := varT_one ht
    subst hn
    match cs, us, hl, h1, h3 with
    | [c], us, _, h1, h3 =>
      simp only [AVRepL] at h1
      obtain ⟨u, us', rfl, H, rfl⟩ := h1
      refine ⟨u, ?_, (fun e => by cases e), fun _ c' hc' => by simp at hc'; subst hc'; exact H⟩
      have := h3 0 (by simp)
      simp only [Nat.add_zero, List.getElem?_cons_zero] at this
      simp only [Instr.loadAt, Instr.sureAddr, loadVar, Sem.run_bind, Sem.run_pure, Result.andThen_ok, run_isAgg ht, Bool.false_eq_true, if_false, run_load, this]
theorem CellsOk.of_repAt {b : Nat} (hm : MemLe rd w.cell?) : ∀ {ds : List D} {o : Nat}, RepAt rd b o ds → CellsOk w rd β b o (ds.map .d)
  | [], _, _ => trivial
  | d :: ds, o, h => by
    simp only [RepAt] at h
    obtain ⟨⟨v, e, H⟩, H2⟩ := h
    exact ⟨⟨v, hm _ _ e, by simpa only [AVRep] using H⟩, CellsOk.of_repAt hm H2⟩
theorem CellsOk.of_dcells {b : Nat} : ∀ {ds : List D} {o : Nat}, DCells w rd b o ds → CellsOk w rd β b o (ds.map .d)
  | [], _, _ => trivial
  | d :: ds, o, ⟨⟨u, e, H⟩, H2⟩ => ⟨⟨u, e, by simpa only [AVRep] using H⟩, CellsOk.of_dcells H2⟩
theorem RepInts.getD {m : Mem} {k : IntKind} {b : Nat} : ∀ {xs : List Int} {o j : Nat}, RepInts m k b o xs → j < xs.length → m (cellAt b (o + j)) = some (.int k (xs.getD j 0))
  | x :: xs, o, 0, ⟨h, _⟩, _ => by simpa using h
  | x :: xs, o, j + 1, ⟨_, h⟩, hj => by
    have := RepInts.getD (j := j) h (by simpa using hj)
    rw [List.getD_cons_succ, ← this]; congr 2; omega
theorem RepFlts.getD {m : Mem} {b : Nat} : ∀ {xs : List Nat} {o j : Nat}, RepFlts m b o xs → j < xs.length → ∃ y, m (cellAt b (o + j)) = some (.float .f64 y) ∧ fcanon y = xs.getD j 0
  | x :: xs, o, 0, ⟨h, _⟩, _ => by simpa using h
  | x :: xs, o, j + 1, ⟨_, h⟩, hj => by
    obtain ⟨y, h1, h2⟩ := RepFlts.getD (j := j) h (by simpa using hj)
    refine ⟨y, ?_, by rw [List.getD_cons_succ]; exact h2⟩
    rw [← h1]; congr 2; omega
theorem RowsOk.getD {b sz : Nat} : ∀ {rs : List (List D)} {o j : Nat}, RowsOk w rd b sz o rs → j < rs.length → (rs.getD j []).length = sz ∧ DCells w rd b (o + j * sz) (rs.getD j [])
  | r :: rs, o, 0, ⟨h0, h1, _⟩, _ => by simpa using ⟨h0, h1⟩
  | r :: rs, o, j + 1, ⟨_, _, h⟩, hj => by
    obtain ⟨h1, h2⟩ := RowsOk.getD (j := j) h (by simpa using hj)
    rw [List.getD_cons_succ]
    exact ⟨h1, by rw [show o + (j + 1) * sz = o + sz + j * sz from by rw [Nat.succ_mul]; omega]; exact h2⟩
theorem load_yields {t : TypeId} {n : Nat} {g : Bool} (ht : varT P t = some (n, g)) (h : Conc N w0 rd0 R σ a w rd β) {v : AV} {u : Value} (hu : AVRep rd β v u) {K : AV → Prop} (hk : loadA σ n g v K) :
    Yields P N w0 rd0 R σ a w β (Instr.loadAt t u) K := by
  have one : ∀ {b o : Nat} {c : AV}, g = false → K c → CellsOk w rd β b o [c] → Yields P N w0 rd0 R σ a w β (Instr.loadAt t (.pointer (some (cellAt b o)))) K := by
    intro b o c hg hc H
    subst hg
    obtain ⟨x, h1, _, h2⟩ := load_cells ht H (by rw [varT_one ht]; rfl)
    exact Yields.here h hc (h2 rfl c rfl) h1
  have many : ∀ {b o : Nat} {cs : List AV}, g = true → K (.agg cs) → cs.length = n → CellsOk w rd β b o cs → Yields P N w0 rd0 R σ a w β (Instr.loadAt t (.pointer (some (cellAt b o)))) K := by
    intro b o cs hg hc hl H
    subst hg
    obtain ⟨x, h1, h2, _⟩ := load_cells ht H hl
    exact Yields.here h hc (h2 rfl) h1
  unfold loadA at hk
  split at hk
  · rename_i cs
    simp only [AVRep, Rep] at hu
    obtain ⟨b, o, rfl, H⟩ := hu
    have H := CellsOk.of_repAt (β := β) h.rdw H
    cases hg : g with
    | true =>
      rw [hg] at hk
      simp only [if_true] at hk
      have H2 := H.take n
      rw [← List.map_take] at H2
      exact many hg hk.2 (by simp; omega) H2
    | false =>
      rw [hg] at hk
      simp only [Bool.false_eq_true, if_false] at hk
      cases cs with
      | nil => exact hk.elim
      | cons d ds => exact one hg hk ⟨H.1, trivial⟩
  · rename_i i off
    simp only [AVRep] at hu
    obtain ⟨r, hr, rfl⟩ := hu
    split at hk
    · rename_i fz ex cs hb
      obtain ⟨b', hb', hc, hp, _⟩ := h.box i r hr
      rw [hb] at hb'
      simp only [Option.some.injEq] at hb'
      subst hb'
      cases hg : g with
      | true =>
        rw [hg] at hk
        simp only [if_true] at hk
        exact many hg hk.2 (by simp; omega) ((hc.2.drop off).take n)
      | false =>
        rw [hg] at hk
        simp only [Bool.false_eq_true, if_false] at hk
        split at hk
        · rename_i v hv
          obtain ⟨x, h1, h2⟩ := hc.2.get hv
          exact one hg hk ⟨⟨x, h1, h2⟩, trivial⟩
        · exact hk.elim
    · exact hk.elim
  · rename_i i j off
    simp only [AVRep] at hu
    obtain ⟨r, hr, rfl⟩ := hu
    obtain ⟨b', hb', hc, hp, _⟩ := h.box i r hr
    split at hk
    · rename_i fz ex k xs hb
      rw [hb] at hb'
      simp only [Option.some.injEq] at hb'
      subst hb'
      obtain ⟨rfl, hg, hj, hk⟩ := hk
      refine one hg hk ⟨⟨.int k (xs.getD j 0), ?_, by simp only [AVRep, Rep]⟩, trivial⟩
      have := hc.2.2.getD hj
      rw [hc.1]; simpa using this
    · rename_i fz ex xs hb
      rw [hb] at hb'
      simp only [Option.some.injEq] at hb'
      subst hb'
      obtain ⟨rfl, hg, hj, hk⟩ := hk
      obtain ⟨y, h1, h2⟩ := hc.2.2.getD hj
      refine one hg hk ⟨⟨.float .f64 y, ?_, by simp only [AVRep, Rep]; exact ⟨y, rfl, h2⟩⟩, trivial⟩
      rw [hc.1]; simpa using h1
    · rename_i fz ex sz xs hb
      rw [hb] at hb'
      simp only [Option.some.injEq] at hb'
      subst hb'
      obtain ⟨hj, hk⟩ := hk
      obtain ⟨hl, hd⟩ := hc.2.2.getD hj
      have H := CellsOk.of_dcells (β := β) hd
      rw [hc.1]
      cases hg : g with
      | true =>
        rw [hg] at hk
        simp only [if_true] at hk
        have H2 := (H.drop off).take n
        rw [← List.map_drop, ← List.map_take] at H2
        exact many hg hk.2 (by rw [List.length_map, List.length_take, List.length_drop]; omega) H2
      | false =>
        rw [hg] at hk
        simp only [Bool.false_eq_true, if_false] at hk
        split at hk
        · rename_i d hd'
          obtain ⟨x, h1, h2⟩ := H.get (k := off) (v := .d d) (by rw [List.getElem?_map, hd']; rfl)
          exact one hg hk ⟨⟨x, h1, h2⟩, trivial⟩
        · exact hk.elim
    · exact hk.elim
  · exact hk.elim
end
end RV
namespace RV
open Go Go.RowKit
theorem isNaN_fnan : (Ieee.double.read fnan).isNaN = true := by decide
theorem fcanon_nan {b : Nat} (h : (Ieee.double.read b).isNaN = true) : fcanon b = fnan := by simp [fcanon, h]
theorem fcanon_num {b : Nat} (h : (Ieee.double.read b).isNaN = false) : fcanon b = b := by simp [fcanon, h]
theorem isNaN_fcanon (b : Nat) : (Ieee.double.read (fcanon b)).isNaN = (Ieee.double.read b).isNaN := by
  cases h : (Ieee.double.read b).isNaN
  · rw [fcanon_num h, h]
  · rw [fcanon_nan h, isNaN_fnan]
theorem nan_cases {d : Ieee.Datum} (h : d.isNaN = true) : ∃ s t, d = .nan s t := by
  cases d <;> simp [Ieee.Datum.isNaN] at h; exact ⟨_, _, rfl⟩
theorem sum_nan_l {d e : Ieee.Datum} (h : d.isNaN = true) : d.sum e = none := by obtain ⟨s, t, rfl⟩ := nan_cases h; rfl
theorem sum_nan_r {d e : Ieee.Datum} (h : e.isNaN = true) : d.sum e = none := by obtain ⟨s, t, rfl⟩ := nan_cases h; cases d <;> rfl
theorem prod_nan_l {d e : Ieee.Datum} (h : d.isNaN = true) : d.product e = none := by obtain ⟨s, t, rfl⟩ := nan_cases h; rfl
theorem prod_nan_r {d e : Ieee.Datum} (h : e.isNaN = true) : d.product e = none := by obtain ⟨s, t, rfl⟩ := nan_cases h; cases d <;> rfl
theorem quot_nan_l {n : Nat} {d e : Ieee.Datum} (h : d.isNaN = true) : d.quotient n e = none := by obtain ⟨s, t, rfl⟩ := nan_cases h; rfl
theorem quot_nan_r {n : Nat} {d e : Ieee.Datum} (h : e.isNaN = true) : d.quotient n e = none := by obtain ⟨s, t, rfl⟩ := nan_cases h; cases d <;> rfl
theorem order_nan_l {d e : Ieee.Datum} (h : d.isNaN = true) : d.order e = none := by obtain ⟨s, t, rfl⟩ := nan_cases h; rfl
theorem order_nan_r {d e : Ieee.Datum} (h : e.isNaN = true) : d.order e = none := by obtain ⟨s, t, rfl⟩ := nan_cases h; cases d <;> rfl
theorem opp_nan {d : Ieee.Datum} (h : d.isNaN = true) : d.opposite.isNaN = true := by obtain ⟨s, t, rfl⟩ := nan_cases h; rfl
theorem canon2 {α : Type} (f : Ieee.Datum → Ieee.Datum → Option α) (hl : ∀ d e, d.isNaN = true → f d e = none) (hr : ∀ d e, e.isNaN = true → f d e = none) (x y : Nat) :
    f (Ieee.double.read (fcanon x)) (Ieee.double.read (fcanon y)) = f (Ieee.double.read x) (Ieee.double.read y) := by
  cases hx : (Ieee.double.read x).isNaN
  · cases hy : (Ieee.double.read y).isNaN
    · rw [fcanon_num hx, fcanon_num hy]
    · rw [hr _ _ hy, hr _ _ (by rw [isNaN_fcanon]; exact hy)]
  · rw [hl _ _ hx, hl _ _ (by rw [isNaN_fcanon]; exact hx)]
theorem add_canon (x y : Nat) : Ieee.double.add (fcanon x) (fcanon y) = Ieee.double.add x y :=
  canon2 (fun d e => (d.sum e).map Ieee.double.write) (fun _ _ h => by simp [sum_nan_l h]) (fun _ _ h => by simp [sum_nan_r h]) x y
theorem sub_canon (x y : Nat) : Ieee.double.sub (fcanon x) (fcanon y) = Ieee.double.sub x y :=
  canon2 (fun d e => (d.sum e.opposite).map Ieee.double.write) (fun _ _ h => by simp [sum_nan_l h]) (fun _ _ h => by simp [sum_nan_r (opp_nan h)]) x y
theorem mul_canon (x y : Nat) : Ieee.double.mul (fcanon x) (fcanon y) = Ieee.double.mul x y :=
  canon2 (fun d e => (d.product e).map Ieee.double.write) (fun _ _ h => by simp [prod_nan_l h]) (fun _ _ h => by simp [prod_nan_r h]) x y
theorem div_canon (x y : Nat) : Ieee.double.div (fcanon x) (fcanon y) = Ieee.double.div x y :=
  canon2 (fun d e => (d.quotient 54 e).map Ieee.double.write) (fun _ _ h => by simp [quot_nan_l h]) (fun _ _ h => by simp [quot_nan_r h]) x y
theorem order_canon (x y : Nat) : Ieee.double.order (fcanon x) (fcanon y) = Ieee.double.order x y :=
  canon2 (fun d e => d.order e) (fun _ _ h => order_nan_l h) (fun _ _ h => order_nan_r h) x y
theorem nan_of_rung {b : Nat} (h : 9218868437227405312 < b % 9223372036854775808) : (Ieee.double.read b).isNaN = true := by
  have e1 : Ieee.double.signWeight = 9223372036854775808 := by decide
  have e2 : Ieee.double.infRung = 9218868437227405312 := by decide
  have e3 : Ieee.double.binade = 4503599627370496 := by decide
  unfold Ieee.Format.read
  simp only [e1, e2, e3]
  rw [if_neg (by omega), if_neg (by omega), if_neg (by omega)]
  rfl
theorem rung_of_nan {b : Nat} (h : (Ieee.double.read b).isNaN = true) : 9218868437227405312 < b % 9223372036854775808 := by
  have e1 : Ieee.double.signWeight = 9223372036854775808 := by decide
  have e2 : Ieee.double.infRung = 9218868437227405312 := by decide
  have e3 : Ieee.double.binade = 4503599627370496 := by decide
  unfold Ieee.Format.read at h
  simp only [e1, e2, e3] at h
  split at h
  · simp [Ieee.Datum.isNaN] at h
  · split at h
    · simp [Ieee.Datum.isNaN] at h
    · split at h
      · simp [Ieee.Datum.isNaN] at h
      · omega
theorem nan_drawn (t : Nat) : (Ieee.double.read ((t % 2) * 2 ^ 63 + 0x7ff0000000000000 + 1 + (t / 2) % (2 ^ 52 - 1))).isNaN = true := by
  refine nan_of_rung ?_
  have := Nat.mod_lt (t / 2) (show 0 < 2 ^ 52 - 1 by decide)
  have := Nat.mod_lt t (show 0 < 2 by decide)
  generalize t % 2 = x at *
  generalize (t / 2) % (2 ^ 52 - 1) = y at *
  have hx : x = 0 ∨ x = 1 := by omega
  rcases hx with rfl | rfl <;> omega
theorem neg_canon (b : Nat) : fcanon (Op.negFloat .f64 b) = fneg (fcanon b) := by
  unfold fneg
  cases h : (Ieee.double.read b).isNaN
  · rw [fcanon_num h]
  · rw [fcanon_nan h]
    have key : ∀ c, (Ieee.double.read c).isNaN = true → (Ieee.double.read (Op.negFloat .f64 c)).isNaN = true := by
      intro c hc
      refine nan_of_rung ?_
      have h1 := rung_of_nan hc
      have e : Op.negFloat .f64 c = c ^^^ 2 ^ 63 := rfl
      rw [e, show (9223372036854775808 : Nat) = 2 ^ 63 by decide, Nat.xor_mod_two_pow, Nat.mod_self, Nat.xor_zero]
      exact h1
    rw [fcanon_nan (key b h), fcanon_nan (key fnan isNaN_fnan)]
section
variable {N : Nat} {w0 : Base} {rd0 : Mem} {R : BM} {σ σ' : St} {a : Act} {w : World} {rd : Mem} {β β' : BM} {P : Program} {Γ : Env}
theorem Yields.int {s : Sem Value} {K : AV → Prop} (h : Conc N w0 rd0 R σ a w rd β) {k : IntKind} {n : Int} (hk : K (.d (.int k n))) (hs : s.run P w = .ok (.int k n) w) : Yields P N w0 rd0 R σ a w β s K :=
  Yields.here h hk (by simp only [AVRep, Rep]) hs
theorem Yields.bool {s : Sem Value} {K : AV → Prop} (h : Conc N w0 rd0 R σ a w rd β) {b : Bool} (hk : K (.d (.bool b))) (hs : s.run P w = .ok (.bool b) w) : Yields P N w0 rd0 R σ a w β s K :=
  Yields.here h hk (by simp only [AVRep, Rep]) hs
theorem arith_here {k : IntKind} {z : Int} {K : AV → Prop} (h : Conc N w0 rd0 R σ a w rd β) (hk : arith k z K) {s : Sem Value} (hs : s.run P w = .ok (.int k (k.wrap z)) w) :
    Yields P N w0 rd0 R σ a w β s K := by
  unfold arith at hk
  split at hk
  · rw [IntWalk.i64_in z hk.1] at hs
    exact Yields.int h hk.2 hs
  · exact Yields.int h hk hs
theorem binI_yields {op : BinOp} {t : TypeId} {k k' : IntKind} {x y : Int} {K : AV → Prop} (h : Conc N w0 rd0 R σ a w rd β) (hkk : k = k' ∨ op = .shl ∨ op = .shr) (hk : binI op k x y K) :
    Yields P N w0 rd0 R σ a w β (binOp op t (.int k x) (.int k' y)) K := by
  cases op <;> simp only [reduceCtorEq, or_false, or_self, or_true] at hkk <;> (try subst hkk) <;> simp only [binI] at hk
  case add => exact arith_here h hk (by simp [binOp, Op.intArith])
  case sub => exact arith_here h hk (by simp [binOp, Op.intArith])
  case mul => exact arith_here h hk (by simp [binOp, Op.intArith])
  case quo => exact arith_here h hk.2 (by simp [binOp, Op.intDiv, hk.1])
  case rem => exact Yields.int h hk.2 (by simp [binOp, Op.intDiv, hk.1])
  case and => exact Yields.int h hk (by simp [binOp, Op.intBits, iand])
  case or => exact Yields.int h hk (by simp [binOp, Op.intBits, ior])
  case xor => exact Yields.int h hk (by simp [binOp, Op.intBits, ixor])
  case andNot => exact Yields.int h hk (by simp [binOp, Op.intBits, iandnot])
  case shl => exact arith_here h hk.2 (by simp [binOp, Op.shift, show ¬ y < 0 by omega])
  case shr => exact Yields.int h hk.2 (by simp [binOp, Op.shift, show ¬ y < 0 by omega])
  case eql => exact Yields.bool h hk (by simp [binOp, Op.intCmp])
  case neq => exact Yields.bool h hk (by simp [binOp, Op.intCmp])
  case lss => exact Yields.bool h hk (by simp [binOp, Op.intCmp])
  case leq => exact Yields.bool h hk (by simp [binOp, Op.intCmp])
  case gtr => exact Yields.bool h hk (by simp [binOp, Op.intCmp])
  case geq => exact Yields.bool h hk (by simp [binOp, Op.intCmp])
theorem Conc.drew (h : Conc N w0 rd0 R σ a w rd β) : Conc N w0 rd0 R σ a w.drew rd β :=
  h.more (Below.refl _ _).drew (MemLe.refl _) (fun a v e => h.rdw a v e) (fun _ _ e _ => e)
def floatRes (P : Program) (x y : Nat) (r : Option Nat) (w : World) : Result Value :=
  match r with
  | some r => .ok (.float .f64 r) w
  | none => ((choose (.nanBits .f64 x y)).run P w).andThen fun n w => .ok (.float .f64 n) w
theorem float_yields {op : BinOp} {x y : Nat} {r : Option Nat} {K : AV → Prop} (h : Conc N w0 rd0 R σ a w rd β) (hk : K (.d (.flt (fop r))))
    (hs : ∀ w, (Op.floatArith op .f64 x y).run P w = floatRes P x y r w) :
    Yields P N w0 rd0 R σ a w β (Op.floatArith op .f64 x y) K := by
  cases r with
  | some r => exact Yields.here h hk (by simp only [AVRep, Rep]; exact ⟨r, rfl, rfl⟩) (hs w)
  | none =>
    refine ⟨.d (.flt (fop none)), .float .f64 ((Question.nanBits .f64 x y).cut (w.tape w.drawn (.nanBits .f64 x y))), w.drew, rd, hk, h.drew, ?_, ?_⟩
    · simp only [AVRep, Rep, Question.cut]
      exact ⟨_, rfl, by rw [fcanon_nan (nan_drawn _)]; rfl⟩
    · rw [hs]
      simp only [floatRes, run_choose, Question.forced]
      rfl
theorem binF_yields {op : BinOp} {t : TypeId} {x y x' y' : Nat} {K : AV → Prop} (h : Conc N w0 rd0 R σ a w rd β) (hx : fcanon x' = x) (hy : fcanon y' = y) (hk : binF op x y K) :
    Yields P N w0 rd0 R σ a w β (binOp op t (.float .f64 x') (.float .f64 y')) K := by
  subst hx hy
  have cmp : ∀ {c : Bool}, K (.d (.bool c)) → (Op.floatCmp op .f64 x' y').run P w = .ok (.bool c) w → binOp op t (.float .f64 x') (.float .f64 y') = Op.floatCmp op .f64 x' y' →
      Yields P N w0 rd0 R σ a w β (binOp op t (.float .f64 x') (.float .f64 y')) K := by
    intro c h1 h2 h3
    rw [h3]
    exact Yields.bool h h1 h2
  have ho := order_canon x' y'
  cases op <;> simp only [binF] at hk
  case add =>
    have hk' : K (.d (.flt (fop (Ieee.double.add x' y')))) := by unfold fadd at hk; rw [add_canon] at hk; exact hk
    show Yields P N w0 rd0 R σ a w β (Op.floatArith .add .f64 x' y') K
    refine float_yields (r := Ieee.double.add x' y') h hk' (fun w => ?_)
    simp only [Op.floatArith, FloatKind.format]
    cases Ieee.double.add x' y' <;> simp [floatRes]
  case sub =>
    have hk' : K (.d (.flt (fop (Ieee.double.sub x' y')))) := by unfold fsub at hk; rw [sub_canon] at hk; exact hk
    show Yields P N w0 rd0 R σ a w β (Op.floatArith .sub .f64 x' y') K
    refine float_yields (r := Ieee.double.sub x' y') h hk' (fun w => ?_)
    simp only [Op.floatArith, FloatKind.format]
    cases Ieee.double.sub x' y' <;> simp [floatRes]
  case mul =>
    have hk' : K (.d (.flt (fop (Ieee.double.mul x' y')))) := by unfold fmul at hk; rw [mul_canon] at hk; exact hk
    show Yields P N w0 rd0 R σ a w β (Op.floatArith .mul .f64 x' y') K
    refine float_yields (r := Ieee.double.mul x' y') h hk' (fun w => ?_)
    simp only [Op.floatArith, FloatKind.format]
    cases Ieee.double.mul x' y' <;> simp [floatRes]
  case quo =>
    have hk' : K (.d (.flt (fop (Ieee.double.div x' y')))) := by unfold fdiv at hk; rw [div_canon] at hk; exact hk
    show Yields P N w0 rd0 R σ a w β (Op.floatArith .quo .f64 x' y') K
    refine float_yields (r := Ieee.double.div x' y') h hk' (fun w => ?_)
    simp only [Op.floatArith, FloatKind.format]
    cases Ieee.double.div x' y' <;> simp [floatRes]
  case eql => exact cmp hk (by unfold feq; rw [ho]; simp [Op.floatCmp, FloatKind.format]) rfl
  case neq => exact cmp hk (by unfold feq; rw [ho]; simp [Op.floatCmp, FloatKind.format, bne]) rfl
  case lss => exact cmp hk (by unfold flt; rw [ho]; simp [Op.floatCmp, FloatKind.format]) rfl
  case leq => exact cmp hk (by unfold fle; rw [ho]; simp [Op.floatCmp, FloatKind.format]) rfl
  case gtr => exact cmp hk (by unfold fgt; rw [ho]; simp [Op.floatCmp, FloatKind.format]) rfl
  case geq => exact cmp hk (by unfold fge; rw [ho]; simp [Op.floatCmp, FloatKind.format]) rfl
end
end RV
namespace RV
open Go Go.RowKit
section
variable {N : Nat} {w0 : Base} {rd0 : Mem} {R : BM} {σ σ' : St} {a : Act} {w : World} {rd : Mem} {β β' : BM} {P : Program} {Γ : Env}
theorem RepRows.getD {m : Mem} {b sz : Nat} : ∀ {rs : List (List D)} {o j : Nat}, RepRows m b sz o rs → j < rs.length → RepAt m b (o + j * sz) (rs.getD j [])
  | r :: rs, o, 0, h, _ => by simp only [RepRows] at h; simpa using h.2.1
  | r :: rs, o, j + 1, h, hj => by
    simp only [RepRows] at h
    have := RepRows.getD (j := j) h.2.2 (by simpa using hj)
    rw [List.getD_cons_succ]
    rw [show o + (j + 1) * sz = o + sz + j * sz from by rw [Nat.succ_mul]; omega]; exact this
theorem RepRows.sub {m : Mem} {b sz : Nat} : ∀ {xs : List (List D)} {o lo : Nat} (n : Nat), RepRows m b sz o xs → RepRows m b sz (o + lo * sz) ((xs.drop lo).take n)
  | [], o, lo, n, _ => by simp [RepRows]
  | x :: xs, o, 0, 0, _ => by simp [RepRows]
  | x :: xs, o, 0, n + 1, h => by
    simp only [RepRows] at h
    have := RepRows.sub (lo := 0) n h.2.2
    simp only [List.drop_zero, List.take_succ_cons, Nat.zero_mul, Nat.add_zero, RepRows] at this ⊢
    exact ⟨h.1, h.2.1, this⟩
  | x :: xs, o, lo + 1, n, h => by
    simp only [RepRows] at h
    have := RepRows.sub (lo := lo) n h.2.2
    have e : o + (lo + 1) * sz = o + sz + lo * sz := by rw [Nat.succ_mul]; omega
    rw [e]
    simpa using this
theorem RepAt.drop {m : Mem} {b : Nat} : ∀ {ds : List D} {o : Nat} (k : Nat), RepAt m b o ds → RepAt m b (o + k) (ds.drop k)
  | ds, o, 0, h => by simpa using h
  | [], o, k + 1, _ => by simp [RepAt]
  | d :: ds, o, k + 1, h => by
    simp only [RepAt] at h
    have := RepAt.drop k h.2
    simpa [Nat.add_assoc, Nat.add_comm 1 k] using this
theorem run_indexAt {t e : TypeId} {n : Nat} (hu : P.underlying t = some (.slice e)) (hs : sizeT P e = some n) {k : IntKind} {i : Int} {b o len cap : Nat} (h0 : 0 ≤ i) (h1 : i < len) :
    (Instr.indexAt t (.slice (some (cellAt b o)) len cap) (.int k i)).run P w = .ok (.pointer (some (cellAt b (o + i.toNat * n)))) w := by
  simp [Instr.indexAt, asIntOf, run_under hu, h0, h1, run_size hs, add_cellAt]
theorem iaddr_yields {t e : TypeId} {n : Nat} (hu : P.underlying t = some (.slice e)) (hs : sizeT P e = some n) (h : Conc N w0 rd0 R σ a w rd β) {v : AV} {u : Value} (hv : AVRep rd β v u)
    {k : IntKind} {i : Int} {K : AV → Prop} (hk : iaddrA σ n v i K) : Yields P N w0 rd0 R σ a w β (Instr.indexAt t u (.int k i)) K := by
  unfold iaddrA at hk
  split at hk
  · rename_i k' xs
    obtain ⟨rfl, h0, h1, hk⟩ := hk
    simp only [AVRep, Rep] at hv
    obtain ⟨A, cap, rfl, _, hA⟩ := hv
    rcases hA with rfl | ⟨b, o, rfl, H⟩
    · simp at h1; omega
    · refine Yields.here h hk ?_ (run_indexAt hu hs h0 h1)
      simp only [AVRep, Rep, RepAt]
      exact ⟨b, _, rfl, ⟨_, by rw [Nat.mul_one]; exact H.getD (by omega), rfl⟩, trivial⟩
  · rename_i xs
    obtain ⟨rfl, h0, h1, hk⟩ := hk
    simp only [AVRep, Rep] at hv
    obtain ⟨A, cap, rfl, _, hA⟩ := hv
    rcases hA with rfl | ⟨b, o, rfl, H⟩
    · simp at h1; omega
    · refine Yields.here h hk ?_ (run_indexAt hu hs h0 h1)
      simp only [AVRep, Rep, RepAt]
      obtain ⟨y, h2, h3⟩ := H.getD (j := i.toNat) (by omega)
      exact ⟨b, _, rfl, ⟨_, by rw [Nat.mul_one]; exact h2, y, rfl, h3⟩, trivial⟩
  · rename_i z xs
    obtain ⟨rfl, h0, h1, hk⟩ := hk
    simp only [AVRep, Rep] at hv
    obtain ⟨A, cap, rfl, _, hA⟩ := hv
    rcases hA with rfl | ⟨b, o, rfl, H⟩
    · simp at h1; omega
    · refine Yields.here h hk ?_ (run_indexAt hu hs h0 h1)
      simp only [AVRep, Rep]
      exact ⟨b, _, rfl, H.getD (by omega)⟩
  · rename_i j lo m
    obtain ⟨hsz, h0, h1, hk⟩ := hk
    simp only [AVRep] at hv
    obtain ⟨A, cap, rfl, hn, hA⟩ := hv
    rcases hA with ⟨rfl, _⟩ | ⟨r, hr, rfl, _⟩
    · omega
    · obtain ⟨b', hb', hc, _⟩ := h.box j r hr
      refine Yields.here h hk ?_ (run_indexAt hu hs h0 h1)
      have hrs : r.sz = n := by
        rw [hb'] at hsz
        cases b' with
        | mk f e c => cases c <;> simp only [szOf, Option.some.injEq, reduceCtorEq] at hsz <;> (rw [← hsz]; exact hc.1)
      simp only [AVRep]
      exact ⟨r, hr, by rw [hrs, Nat.add_zero, Nat.add_mul, Nat.add_assoc]⟩
  · exact hk.elim
def IsBd (d n : Int) : Option Value → Prop
  | none => n = d
  | some x => ∃ k, x = .int k n
def OptRep (rd : Mem) (β : BM) : Option AV → Option Value → Prop
  | none, none => True
  | some v, some x => AVRep rd β v x
  | _, _ => False
theorem slice_bound {x : Option Value} {d : Int} {K : Int → Prop} {v : Option AV} (hv : OptRep rd β v x) (hk : bound d v K) :
    ∃ n, K n ∧ IsBd d n x := by
  unfold bound at hk
  split at hk
  · cases x with
    | none => exact ⟨d, hk, rfl⟩
    | some x => exact hv.elim
  · rename_i k n
    cases x with
    | none => exact hv.elim
    | some x => simp only [OptRep, AVRep, Rep] at hv; exact ⟨n, hk, k, hv⟩
  · exact hk.elim
theorem run_sliceAt {t e : TypeId} {n : Nat} (hu : P.underlying t = some (.slice e)) (hs : sizeT P e = some n) {A : Option Addr} {len cap : Nat} {lo hi : Option Value} {l h : Int}
    (hl : IsBd 0 l lo) (hh : IsBd len h hi) (h0 : 0 ≤ l) (h1 : l ≤ h) (h2 : h ≤ len) (h3 : len ≤ cap) :
    (Instr.sliceAt t (.slice A len cap) lo hi none).run P w = .ok (.slice (if cap = l.toNat then A else A.map (·.add (l.toNat * n))) (h.toNat - l.toNat) (cap - l.toNat)) w := by
  have hb : ∀ {x : Value} {k : IntKind} {i : Int} {y : Nat} {c : BoundsCode}, x = .int k i → 0 ≤ i → i ≤ y → (Instr.sliceBound x y c).run P w = .ok i.toNat w := by
    intro x k i y c hx h0 h1
    subst hx
    simp [Instr.sliceBound, asIntOf, h0, h1]
  have hbs : (Instr.sliceBounds true len cap lo hi none).run P w = .ok (l.toNat, h.toNat, cap) w := by
    cases lo with
    | none =>
      have hl : l = 0 := hl
      subst hl
      cases hi with
      | none =>
        have hh : h = len := hh
        subst hh; simp [Instr.sliceBounds]
      | some x =>
        obtain ⟨k, hx⟩ := hh
        simp [Instr.sliceBounds, hb hx (by omega : 0 ≤ h) (by omega : h ≤ (cap : Int))]
    | some x =>
      obtain ⟨k, hx⟩ := hl
      cases hi with
      | none =>
        have hh : h = len := hh
        subst hh; simp [Instr.sliceBounds, hb hx h0 h1]
      | some x' =>
        obtain ⟨k', hx'⟩ := hh
        simp [Instr.sliceBounds, hb hx' (by omega : 0 ≤ h) (by omega : h ≤ (cap : Int)), hb hx h0 (by omega : l ≤ ((h.toNat : Nat) : Int))]
  simp [Instr.sliceAt, Instr.slice, run_under hu, hbs, run_size hs]
theorem slc_yields {t e : TypeId} {n : Nat} (hu : P.underlying t = some (.slice e)) (hs : sizeT P e = some n) (h : Conc N w0 rd0 R σ a w rd β) {v : AV} {u : Value} (hv : AVRep rd β v u)
    {lo hi : Option AV} {xl xh : Option Value} (hlo : OptRep rd β lo xl)
    (hhi : OptRep rd β hi xh) {K : AV → Prop} (hk : slcA σ n v lo hi K) :
    Yields P N w0 rd0 R σ a w β (Instr.sliceAt t u xl xh none) K := by
  unfold slcA at hk
  split at hk
  · rename_i k xs
    simp only [AVRep, Rep] at hv
    obtain ⟨A, cap, rfl, hcap, hA⟩ := hv
    obtain ⟨l, hk, hl⟩ := slice_bound hlo hk
    obtain ⟨m, hk, hm⟩ := slice_bound hhi hk
    obtain ⟨rfl, h0, h1, h2, hk⟩ := hk
    have hlen : ((xs.take m.toNat).drop l.toNat).length = m.toNat - l.toNat := by simp; omega
    refine Yields.here h hk ?_ (run_sliceAt hu hs hl hm h0 h1 h2 hcap)
    simp only [AVRep, Rep, hlen]
    refine ⟨_, _, rfl, by omega, ?_⟩
    rcases hA with rfl | ⟨b, o, rfl, H⟩
    · left; simp
    · by_cases hc : cap = l.toNat
      · left; exact List.eq_nil_of_length_eq_zero (by omega)
      · right
        refine ⟨b, o + l.toNat, by rw [if_neg hc]; simp [add_cellAt], ?_⟩
        have := H.sub (lo := l.toNat) (m.toNat - l.toNat)
        rwa [← List.drop_take] at this
  · rename_i xs
    simp only [AVRep, Rep] at hv
    obtain ⟨A, cap, rfl, hcap, hA⟩ := hv
    obtain ⟨l, hk, hl⟩ := slice_bound hlo hk
    obtain ⟨m, hk, hm⟩ := slice_bound hhi hk
    obtain ⟨rfl, h0, h1, h2, hk⟩ := hk
    have hlen : ((xs.take m.toNat).drop l.toNat).length = m.toNat - l.toNat := by simp; omega
    refine Yields.here h hk ?_ (run_sliceAt hu hs hl hm h0 h1 h2 hcap)
    simp only [AVRep, Rep, hlen]
    refine ⟨_, _, rfl, by omega, ?_⟩
    rcases hA with rfl | ⟨b, o, rfl, H⟩
    · left; simp
    · by_cases hc : cap = l.toNat
      · left; exact List.eq_nil_of_length_eq_zero (by omega)
      · right
        refine ⟨b, o + l.toNat, by rw [if_neg hc]; simp [add_cellAt], ?_⟩
        have := H.sub (lo := l.toNat) (m.toNat - l.toNat)
        rwa [← List.drop_take] at this
  · rename_i z xs
    simp only [AVRep, Rep] at hv
    obtain ⟨A, cap, rfl, hcap, hA⟩ := hv
    obtain ⟨l, hk, hl⟩ := slice_bound hlo hk
    obtain ⟨m, hk, hm⟩ := slice_bound hhi hk
    obtain ⟨rfl, h0, h1, h2, hk⟩ := hk
    have hlen : ((xs.take m.toNat).drop l.toNat).length = m.toNat - l.toNat := by simp; omega
    refine Yields.here h hk ?_ (run_sliceAt hu hs hl hm h0 h1 h2 hcap)
    simp only [AVRep, Rep, hlen]
    refine ⟨_, _, rfl, by omega, ?_⟩
    rcases hA with rfl | ⟨b, o, rfl, H⟩
    · left; simp
    · by_cases hc : cap = l.toNat
      · left; exact List.eq_nil_of_length_eq_zero (by omega)
      · right
        refine ⟨b, o + l.toNat * n, by rw [if_neg hc]; simp [add_cellAt], ?_⟩
        have := H.sub (lo := l.toNat) (m.toNat - l.toNat)
        rwa [← List.drop_take] at this
  · rename_i j o len
    simp only [AVRep] at hv
    obtain ⟨A, cap, rfl, hcap, hA⟩ := hv
    obtain ⟨l, hk, hl⟩ := slice_bound hlo hk
    obtain ⟨m, hk, hm⟩ := slice_bound hhi hk
    obtain ⟨hsz, h0, h1, h2, hk⟩ := hk
    refine Yields.here h hk ?_ (run_sliceAt hu hs hl hm h0 h1 h2 hcap)
    simp only [AVRep]
    refine ⟨_, _, rfl, by omega, ?_⟩
    rcases hA with ⟨rfl, rfl⟩ | ⟨r, hr, rfl, hwh⟩
    · left; omega
    · by_cases hc : cap = l.toNat
      · left; omega
      · right
        obtain ⟨b', hb', hc', _⟩ := h.box j r hr
        have hrs : r.sz = n := by
          rw [hb'] at hsz
          cases b' with
          | mk f e c => cases c <;> simp only [szOf, Option.some.injEq, reduceCtorEq] at hsz <;> (rw [← hsz]; exact hc'.1)
        refine ⟨r, hr, by rw [if_neg hc]; simp [add_cellAt, hrs, Nat.add_mul, Nat.add_assoc], fun hw => ?_⟩
        have := hwh hw
        rw [Nat.add_mul, Nat.sub_mul]
        have : l.toNat * r.sz ≤ cap * r.sz := Nat.mul_le_mul_right _ (by omega)
        omega
  · exact hk.elim
end
end RV
namespace RV
open Go Go.RowKit
section
variable {N : Nat} {w0 : Base} {rd0 : Mem} {R : BM} {σ σ' : St} {a : Act} {w : World} {rd : Mem} {β β' : BM} {P : Program} {Γ : Env}
theorem AVRepL_length : ∀ {cs : List AV} {vs : List Value}, AVRepL rd β cs vs → vs.length = cs.length
  | [], _, H => by simp only [AVRepL] at H; simp [H]
  | d :: ds, _, H => by
    simp only [AVRepL] at H
    obtain ⟨v, us, e, _, h2⟩ := H
    simp [e, AVRepL_length h2]
theorem AVRepL_append : ∀ {cs ds : List AV} {vs us : List Value}, AVRepL rd β cs vs → AVRepL rd β ds us → AVRepL rd β (cs ++ ds) (vs ++ us)
  | [], ds, vs, us, h, k => by simp only [AVRepL] at h; simpa [h] using k
  | c :: cs, ds, vs, us, h, k => by
    simp only [AVRepL, List.cons_append] at *
    obtain ⟨v, vs', rfl, h1, h2⟩ := h
    exact ⟨v, vs' ++ us, rfl, h1, AVRepL_append h2 k⟩
theorem AVRepL_take : ∀ {cs : List AV} {vs : List Value} (n : Nat), AVRepL rd β cs vs → AVRepL rd β (cs.take n) (vs.take n)
  | _, _, 0, _ => by simp [AVRepL]
  | [], vs, n + 1, h => by simp only [AVRepL] at h; simp [h, AVRepL]
  | c :: cs, vs, n + 1, h => by
    simp only [AVRepL, List.take_succ_cons] at *
    obtain ⟨v, vs', rfl, h1, h2⟩ := h
    exact ⟨v, vs'.take n, by simp, h1, AVRepL_take n h2⟩
theorem AVRepL_drop : ∀ {cs : List AV} {vs : List Value} (n : Nat), AVRepL rd β cs vs → AVRepL rd β (cs.drop n) (vs.drop n)
  | _, _, 0, h => by simpa using h
  | [], vs, n + 1, h => by simp only [AVRepL] at h; simp [h, AVRepL]
  | c :: cs, vs, n + 1, h => by
    simp only [AVRepL] at h
    obtain ⟨v, vs', rfl, h1, h2⟩ := h
    simpa using AVRepL_drop n h2
theorem AVRepL_get : ∀ {cs : List AV} {vs : List Value} {k : Nat} {c : AV}, AVRepL rd β cs vs → cs[k]? = some c → ∃ v, vs[k]? = some v ∧ AVRep rd β c v
  | c :: cs, vs, 0, c', h, hc => by
    simp only [AVRepL] at h
    obtain ⟨v, vs', rfl, h1, h2⟩ := h
    simp at hc; subst hc
    exact ⟨v, rfl, h1⟩
  | c :: cs, vs, k + 1, c', h, hc => by
    simp only [AVRepL] at h
    obtain ⟨v, vs', rfl, h1, h2⟩ := h
    have hc' : cs[k]? = some c' := by simpa using hc
    obtain ⟨x, h3, h4⟩ := AVRepL_get h2 hc'
    exact ⟨x, by simpa using h3, h4⟩
theorem scal_cells {c : AV} {u : Value} (hs : c.scal = true) (h : AVRep rd β c u) : u.cells = #[u] ∧ u.oneCell' = true := by
  cases c with
  | d x =>
    cases x <;> simp only [AV.scal, Bool.false_eq_true] at hs <;> simp only [AVRep, Rep] at h
    case bool => subst h; exact ⟨rfl, rfl⟩
    case int => subst h; exact ⟨rfl, rfl⟩
    case flt => obtain ⟨y, rfl, _⟩ := h; exact ⟨rfl, rfl⟩
    case ints => obtain ⟨_, _, rfl, _⟩ := h; exact ⟨rfl, rfl⟩
    case flts => obtain ⟨_, _, rfl, _⟩ := h; exact ⟨rfl, rfl⟩
    case recs => obtain ⟨_, _, rfl, _⟩ := h; exact ⟨rfl, rfl⟩
    case ptr => obtain ⟨_, _, rfl, _⟩ := h; exact ⟨rfl, rfl⟩
    case fn => obtain ⟨_, _, rfl, _⟩ := h; exact ⟨rfl, rfl⟩
    case nilfn => subst h; exact ⟨rfl, rfl⟩
    case nilp => subst h; exact ⟨rfl, rfl⟩
  | agg cs => simp [AV.scal] at hs
  | box i o => simp only [AVRep] at h; obtain ⟨_, _, rfl⟩ := h; exact ⟨rfl, rfl⟩
  | own i o n => simp only [AVRep] at h; obtain ⟨_, _, rfl, _⟩ := h; exact ⟨rfl, rfl⟩
  | elt i j o => simp only [AVRep] at h; obtain ⟨_, _, rfl⟩ := h; exact ⟨rfl, rfl⟩
  | clo f x y => simp only [AVRep] at h; obtain ⟨_, _, rfl, _⟩ := h; exact ⟨rfl, rfl⟩
  | yld l => simp [AV.scal] at hs
  | und => simp [AV.scal] at hs
  | any => simp [AV.scal] at hs
theorem cells_rep {c : AV} {u : Value} (hs : c.cells.all AV.scal = true) (h : AVRep rd β c u) : AVRepL rd β c.cells u.cells.toList := by
  cases hc : c with
  | agg cs =>
    subst hc
    simp only [AVRep] at h
    obtain ⟨vs, rfl, H⟩ := h
    exact H
  | _ =>
    rw [← hc]
    have e : c.cells = [c] := by subst hc; rfl
    rw [e] at hs ⊢
    rw [(scal_cells (by simpa using hs) h).1]
    simp only [AVRepL]
    exact ⟨u, [], rfl, h, rfl⟩
theorem scal_one : ∀ {cs : List AV} {us : List Value}, cs.all AV.scal = true → AVRepL rd β cs us → ∀ u ∈ us, u.oneCell' = true
  | [], us, _, h => by simp only [AVRepL] at h; simp [h]
  | c :: cs, us, hs, h => by
    simp only [AVRepL] at h
    obtain ⟨v, us', rfl, h1, h2⟩ := h
    simp only [List.all_cons, Bool.and_eq_true] at hs
    intro u hu
    simp only [List.mem_cons] at hu
    rcases hu with rfl | hu
    · exact (scal_cells hs.1 h1).2
    · exact scal_one hs.2 h2 u hu
theorem foldl_set : ∀ (vs : List Value) (cs : Array Value) (off k : Nat), off + k + vs.length ≤ cs.size →
    ((vs.zipIdx k).foldl (fun cs (x : Value × Nat) => cs.setIfInBounds (off + x.2) x.1) cs).toList = cs.toList.take (off + k) ++ vs ++ cs.toList.drop (off + k + vs.length)
  | [], cs, off, k, _ => by simp
  | v :: vs, cs, off, k, h => by
    simp only [List.length_cons] at h
    simp only [List.zipIdx_cons, List.foldl_cons]
    rw [foldl_set vs _ off (k + 1) (by simp; omega)]
    simp only [Array.toList_setIfInBounds, List.length_cons]
    have hl : off + k < cs.toList.length := by simp; omega
    have e1 : (cs.toList.set (off + k) v).take (off + (k + 1)) = cs.toList.take (off + k) ++ [v] := by
      rw [show off + (k + 1) = off + k + 1 by omega, List.take_succ_eq_append_getElem (by simpa using hl), List.take_set_of_le (Nat.le_refl _)]
      simp
    have e2 : (cs.toList.set (off + k) v).drop (off + (k + 1) + vs.length) = cs.toList.drop (off + k + (vs.length + 1)) := by
      rw [List.drop_set_of_lt (by omega)]; congr 1; omega
    rw [e1, e2]; simp
def PartsOk (rd : Mem) (β : BM) (place : Nat → Option (Nat × Nat)) : List (Nat × Nat × AV) → List (Nat × Value) → Prop
  | [], [] => True
  | p :: ps, q :: qs => (place q.1 = some (p.1, p.2.1) ∧ AVRep rd β p.2.2 q.2) ∧ PartsOk rd β place ps qs
  | _, _ => False
theorem fill_rep {place : Nat → Option (Nat × Nat)} : ∀ {parts : List (Nat × Nat × AV)} {vparts : List (Nat × Value)} {zero cs : List AV} {zs : Array Value},
    PartsOk rd β place parts vparts →
    AVRepL rd β zero zs.toList → fillL zero parts = some cs → ∃ arr, Instr.fill place zs vparts = some arr ∧ AVRepL rd β cs arr.toList
  | [], _ :: _, _, _, _, hp, _, _ => hp.elim
  | [], [], zero, cs, zs, hp, hz, hf => by
    simp only [fillL, Option.some.injEq] at hf; subst hf
    exact ⟨zs, rfl, hz⟩
  | _ :: _, [], _, _, _, hp, _, _ => hp.elim
  | (off, size, v) :: parts, q :: vparts, zero, cs, zs, hp, hz, hf => by
      obtain ⟨⟨h3, h4⟩, h2⟩ := hp
      simp only [fillL] at hf
      split at hf
      · rename_i hc
        obtain ⟨c1, c2, c3⟩ := hc
        have hcr := cells_rep c3 h4
        have hl := AVRepL_length hcr
        have hzl := AVRepL_length hz
        have hq : q.2.cells.size = size := by simpa [c1] using hl
        simp only [Array.length_toList] at hl hzl
        have hset := foldl_set q.2.cells.toList zs off 0 (by simp; omega)
        obtain ⟨arr, h5, h6⟩ := fill_rep (zs := q.2.cells.zipIdx.foldl (fun cs (c, j) => cs.setIfInBounds (off + j) c) zs) h2 (by
          rw [← Array.foldl_toList, Array.toList_zipIdx, hset]
          simp only [Nat.add_zero, Array.length_toList, hq]
          exact AVRepL_append (AVRepL_append (AVRepL_take _ hz) hcr) (AVRepL_drop _ hz)) hf
        refine ⟨arr, ?_, h6⟩
        simp only [Instr.fill, h3]
        rw [if_neg (by simp [hq]; omega)]
        exact h5
      · cases hf
theorem constDs_zero {t : TypeId} {z : List D} (h : zeroDs P t = some z) : ∃ i v, P.info? t = some i ∧ i.zero = some v ∧ RepL rd z v.cells.toList := by
  unfold zeroDs at h
  split at h
  · rename_i v ts hv _
    cases hi : P.info? t with
    | none => rw [hi] at hv; cases hv
    | some i => rw [hi] at hv; exact ⟨i, v, rfl, hv, constDs_rep h⟩
  · cases h
theorem run_zero {t : TypeId} {i : TypeInfo} {v : Value} (h : P.info? t = some i) (hv : i.zero = some v) (w : World) : (zeroValue t).run P w = .ok v w := by
  simp [zeroValue, run_info h, hv]
theorem run_mapM_ok {α γ : Type} {f : α → Sem γ} {g : α → γ} : ∀ (l : List α), (∀ x ∈ l, ∀ w, (f x).run P w = .ok (g x) w) → ∀ w, (l.mapM f).run P w = .ok (l.map g) w
  | [], _, w => by simp
  | x :: l, h, w => by
    simp only [List.mapM_cons, Sem.run_bind, h x (by simp), Result.andThen_ok, run_mapM_ok l (fun y hy => h y (by simp [hy])), Sem.run_pure, List.map_cons]
theorem fieldPl_spec : ∀ {fs : List Field} {pl : List (Nat × Nat × TypeId)}, fieldPl P fs = some pl →
    (∀ f ∈ fs, ∃ n, sizeT P f.type = some n) ∧ pl = fs.map fun f => (f.offset, (sizeT P f.type).getD 0, f.type)
  | [], pl, h => by simp only [fieldPl, Option.some.injEq] at h; subst h; simp
  | f :: fs, pl, h => by
    simp only [fieldPl] at h
    split at h
    · rename_i n ps h1 h2
      simp only [Option.some.injEq] at h; subst h
      obtain ⟨h3, h4⟩ := fieldPl_spec h2
      refine ⟨fun g hg => ?_, by simp [h1, h4]⟩
      simp only [List.mem_cons] at hg
      rcases hg with rfl | hg
      · exact ⟨n, h1⟩
      · exact h3 g hg
    · cases h
theorem transParts_rep (h : Conc N w0 rd0 R σ a w rd β) {pl : List (Nat × Nat × TypeId)} {place : Nat → Option (Nat × Nat)} (hpl : ∀ i x, pl[i]? = some x → place i = some (x.1, x.2.1)) :
    ∀ {parts : List (Nat × Operand)} {ps : List (Nat × Nat × LV)}, transParts P pl parts = some ps →
    PartsOk rd β place (ps.map fun p => (p.1, p.2.1, σ.lv p.2.2)) (parts.map fun (i, x) => (i, a.eval x))
  | [], ps, ht => by simp only [transParts, Option.some.injEq] at ht; subst ht; exact trivial
  | (i, x) :: parts, ps, ht => by
    simp only [transParts] at ht
    split at ht
    · rename_i off size t ps' h1 h2
      split at ht
      · rename_i v hv
        simp only [Option.some.injEq] at ht; subst ht
        simp only [List.map_cons]
        exact ⟨⟨hpl i _ h1, transV_rep h hv⟩, transParts_rep h hpl h2⟩
      · cases ht
    · cases ht
theorem build_yields (h : Conc N w0 rd0 R σ a w rd β) {t : TypeId} {parts : Array (Nat × Operand)} {l : LOp} (ht : tBuild P t parts = some l) {K : AV → Prop} (hk : aval Γ σ K l) :
    Yields P N w0 rd0 R σ a w β (Instr.build t (parts.map fun (i, x) => (i, a.eval x))) K := by
  unfold tBuild at ht
  split at ht
  · rename_i fs z hu hz
    split at ht
    · rename_i pl hpl
      cases hp : transParts P pl parts.toList with
      | none => rw [hp] at ht; cases ht
      | some ps =>
        rw [hp] at ht
        simp only [Option.map_some, Option.some.injEq] at ht; subst ht
        simp only [aval] at hk
        split at hk
        · rename_i cs hcs
          obtain ⟨i, v, hi, hv, hzr⟩ := constDs_zero (rd := rd) hz
          obtain ⟨hs1, hs2⟩ := fieldPl_spec hpl
          have hplaces : (fs.mapM fun f => do pure (f.offset, ← Go.sizeOf f.type) : Sem (Array (Nat × Nat))).run P w = .ok (fs.map fun f => (f.offset, (sizeT P f.type).getD 0)) w := by
            rw [Array.mapM_eq_mapM_toList]
            simp only [Sem.run_map]
            rw [run_mapM_ok (g := fun f => (f.offset, (sizeT P f.type).getD 0)) fs.toList (fun f hf w => by
              obtain ⟨n, hn⟩ := hs1 f hf
              simp [run_size hn, hn])]
            simp only [Result.andThen_ok]
            rw [← Array.toList_map]
          obtain ⟨arr, h1, h2⟩ := fill_rep (zs := v.cells) (transParts_rep h (place := fun i => (fs.map fun f => (f.offset, (sizeT P f.type).getD 0))[i]?) (fun i x hx => by
            rw [hs2] at hx
            simp only [List.getElem?_map] at hx
            cases hf : fs.toList[i]? with
            | none => rw [hf] at hx; cases hx
            | some f =>
              rw [hf] at hx
              simp only [Option.map_some, Option.some.injEq] at hx; subst hx
              have hf' : fs[i]? = some f := by simpa using hf
              simp [hf']) hp) (AVRepL_of_d hzr) hcs
          refine Yields.here h hk (u := .agg arr) (by simp only [AVRep]; exact ⟨arr, rfl, h2⟩) ?_
          simp only [Instr.build, Sem.run_bind, run_zero hi hv, Result.andThen_ok, run_under hu, hplaces]
          have : (parts.map fun (i, x) => (i, a.eval x)).toList = parts.toList.map fun (i, x) => (i, a.eval x) := by simp
          rw [this, h1]
          simp
        · exact hk.elim
    · cases ht
  · rename_i len e z hu hz
    split at ht
    · rename_i n hn
      cases hp : transParts P ((List.range len).map fun i => (i * n, n, e)) parts.toList with
      | none => rw [hp] at ht; cases ht
      | some ps =>
        rw [hp] at ht
        simp only [Option.map_some, Option.some.injEq] at ht; subst ht
        simp only [aval] at hk
        split at hk
        · rename_i cs hcs
          obtain ⟨i, v, hi, hv, hzr⟩ := constDs_zero (rd := rd) hz
          obtain ⟨arr, h1, h2⟩ := fill_rep (zs := v.cells) (transParts_rep h (place := fun i => some (i * n, n)) (fun i x hx => by
            simp only [List.getElem?_map] at hx
            cases hf : (List.range len)[i]? with
            | none => rw [hf] at hx; cases hx
            | some j =>
              rw [hf] at hx
              simp only [Option.map_some, Option.some.injEq] at hx; subst hx
              have : j = i := by
                have := List.getElem?_eq_some_iff.1 hf
                obtain ⟨hlt, h⟩ := this
                simpa using h.symm
              simp [this]) hp) (AVRepL_of_d hzr) hcs
          refine Yields.here h hk (u := .agg arr) (by simp only [AVRep]; exact ⟨arr, rfl, h2⟩) ?_
          simp only [Instr.build, Sem.run_bind, run_zero hi hv, Result.andThen_ok, run_under hu, run_size hn]
          have : (parts.map fun (i, x) => (i, a.eval x)).toList = parts.toList.map fun (i, x) => (i, a.eval x) := by simp
          rw [this, h1]
          simp
        · exact hk.elim
    · cases ht
  · cases ht
end
end RV
namespace RV
open Go Go.RowKit
section
variable {N : Nat} {w0 : Base} {rd0 : Mem} {R : BM} {σ σ' : St} {a : Act} {w : World} {rd : Mem} {β β' : BM} {P : Program} {Γ : Env}
def catV (us : List Value) : List Value := us.flatMap fun u => u.cells.toList
theorem fill_consec {size : Nat} : ∀ (us : List Value) (k : Nat) (zs : Array Value), (∀ u ∈ us, u.cells.size = size) → (k + us.length) * size ≤ zs.size →
    ∃ arr, Instr.fill (fun i => some (i * size, size)) zs ((us.zipIdx k).map fun x => (x.2, x.1)) = some arr ∧ arr.toList = zs.toList.take (k * size) ++ catV us ++ zs.toList.drop ((k + us.length) * size)
  | [], k, zs, _, _ => ⟨zs, rfl, by simp [catV]⟩
  | u :: us, k, zs, hu, hz => by
    have h0 := hu u (by simp)
    simp only [List.length_cons] at hz
    have e0 : (k + (us.length + 1)) * size = k * size + size + us.length * size := by rw [Nat.add_mul, Nat.add_mul]; omega
    rw [e0] at hz
    have hset := foldl_set u.cells.toList zs (k * size) 0 (by simp; omega)
    obtain ⟨arr, h1, h2⟩ := fill_consec us (k + 1) (u.cells.zipIdx.foldl (fun cs (c, j) => cs.setIfInBounds (k * size + j) c) zs) (fun v hv => hu v (by simp [hv])) (by
      have : (u.cells.zipIdx.foldl (fun cs (c, j) => cs.setIfInBounds (k * size + j) c) zs).toList.length = zs.size := by
        rw [← Array.foldl_toList, Array.toList_zipIdx, hset]; simp; omega
      rw [Array.length_toList] at this
      rw [this, show (k + 1 + us.length) * size = k * size + size + us.length * size by rw [Nat.add_mul, Nat.add_mul]; omega]
      exact hz)
    refine ⟨arr, ?_, ?_⟩
    · simp only [List.zipIdx_cons, List.map_cons, Instr.fill]
      rw [if_neg (by simp [h0]; omega)]
      exact h1
    · rw [h2, ← Array.foldl_toList, Array.toList_zipIdx, hset]
      simp only [Nat.add_zero, Array.length_toList, h0]
      have l1 : (zs.toList.take (k * size) ++ u.cells.toList).length = (k + 1) * size := by
        simp [h0, Nat.succ_mul]; omega
      rw [List.take_append_of_le_length (by omega), List.take_of_length_le (by omega)]
      rw [show (k + 1 + us.length) * size = (zs.toList.take (k * size) ++ u.cells.toList).length + us.length * size by rw [l1, ← Nat.add_mul]]
      rw [List.drop_length_add_append]
      simp only [List.drop_drop, catV, List.flatMap_cons, List.length_cons, e0]
      simp
theorem asSlice_ints {k : IntKind} {rd m : Mem} {b : Nat} : ∀ {ds : List D} {us : List Value} {xs : List Int} {o : Nat}, asInts k ds = some xs → RepL rd ds us →
    (∀ u ∈ us, u.cells.size = 1) ∧ xs.length = us.length ∧ ((∀ j v, (catV us)[j]? = some v → m (cellAt b (o + j)) = some v) → RepInts m k b o xs)
  | [], us, xs, o, h, hr => by
    simp only [asInts, Option.some.injEq] at h; subst h
    simp only [RepL] at hr; subst hr
    simp [RepInts]
  | d :: ds, us, xs, o, h, hr => by
    simp only [RepL] at hr
    obtain ⟨u, us', rfl, h1, h2⟩ := hr
    cases d <;> simp only [asInts, reduceCtorEq] at h
    split at h
    · rename_i k' n hk
      subst hk
      cases ha : asInts k' ds with
      | none => rw [ha] at h; cases h
      | some ys =>
        rw [ha] at h
        simp only [Option.map_some, Option.some.injEq] at h; subst h
        simp only [Rep] at h1; subst h1
        obtain ⟨i1, i2, i3⟩ := asSlice_ints (o := o + 1) ha h2 (m := m) (b := b)
        refine ⟨fun v hv => ?_, by simp [i2], fun hm => ⟨hm 0 _ (by simp [catV, Value.cells]), i3 fun j v hj => ?_⟩⟩
        · simp only [List.mem_cons] at hv
          rcases hv with rfl | hv
          · rfl
          · exact i1 v hv
        · have := hm (j + 1) v (by simpa [catV, Value.cells] using hj)
          rw [show o + 1 + j = o + (j + 1) by omega]; exact this
    · cases h
theorem asSlice_flts {rd m : Mem} {b : Nat} : ∀ {ds : List D} {us : List Value} {xs : List Nat} {o : Nat}, asFlts ds = some xs → RepL rd ds us →
    (∀ u ∈ us, u.cells.size = 1) ∧ xs.length = us.length ∧ ((∀ j v, (catV us)[j]? = some v → m (cellAt b (o + j)) = some v) → RepFlts m b o xs)
  | [], us, xs, o, h, hr => by
    simp only [asFlts, Option.some.injEq] at h; subst h
    simp only [RepL] at hr; subst hr
    simp [RepFlts]
  | d :: ds, us, xs, o, h, hr => by
    simp only [RepL] at hr
    obtain ⟨u, us', rfl, h1, h2⟩ := hr
    cases d <;> simp only [asFlts, reduceCtorEq] at h
    rename_i n
    cases ha : asFlts ds with
    | none => rw [ha] at h; cases h
    | some ys =>
      rw [ha] at h
      simp only [Option.map_some, Option.some.injEq] at h; subst h
      simp only [Rep] at h1
      obtain ⟨y, rfl, hy⟩ := h1
      obtain ⟨i1, i2, i3⟩ := asSlice_flts (o := o + 1) ha h2 (m := m) (b := b)
      refine ⟨fun v hv => ?_, by simp [i2], fun hm => ⟨⟨y, hm 0 _ (by simp [catV, Value.cells]), hy⟩, i3 fun j v hj => ?_⟩⟩
      · simp only [List.mem_cons] at hv
        rcases hv with rfl | hv
        · rfl
        · exact i1 v hv
      · have := hm (j + 1) v (by simpa [catV, Value.cells] using hj)
        rw [show o + 1 + j = o + (j + 1) by omega]; exact this
theorem RepAt.of {rd m : Mem} (hm : MemLe rd m) {b : Nat} : ∀ {ds : List D} {vs : List Value} {o : Nat}, RepL rd ds vs → (∀ j v, vs[j]? = some v → m (cellAt b (o + j)) = some v) → RepAt m b o ds
  | [], _, _, _, _ => by simp only [RepAt]
  | d :: ds, vs, o, h, hc => by
    simp only [RepL] at h
    obtain ⟨v, us, rfl, h1, h2⟩ := h
    simp only [RepAt]
    refine ⟨⟨v, hc 0 v rfl, h1.mono hm _ _⟩, RepAt.of hm h2 fun j u hj => ?_⟩
    have := hc (j + 1) u (by simpa using hj)
    rw [show o + 1 + j = o + (j + 1) by omega]; exact this
theorem asSlice_rows {sz : Nat} {rd m : Mem} (hle : MemLe rd m) {b : Nat} : ∀ {ds : List D} {us : List Value} {xs : List (List D)} {o : Nat}, asRows sz ds = some xs → RepL rd ds us →
    (∀ u ∈ us, u.cells.size = sz) ∧ xs.length = us.length ∧ ((∀ j v, (catV us)[j]? = some v → m (cellAt b (o + j)) = some v) → RepRows m b sz o xs)
  | [], us, xs, o, h, hr => by
    simp only [asRows, Option.some.injEq] at h; subst h
    simp only [RepL] at hr; subst hr
    simp [RepRows]
  | d :: ds, us, xs, o, h, hr => by
    simp only [RepL] at hr
    obtain ⟨u, us', rfl, h1, h2⟩ := hr
    have key : ∃ r ys, xs = r :: ys ∧ asRows sz ds = some ys ∧ r.length = sz ∧ RepL rd r u.cells.toList := by
      have other : (∀ cs, d ≠ .agg cs) → ∃ r ys, xs = r :: ys ∧ asRows sz ds = some ys ∧ r.length = sz ∧ RepL rd r u.cells.toList := by
        intro hd
        have h' : (if sz = 1 then (asRows sz ds).map ([d] :: ·) else none) = some xs := by
          cases d <;> simp only [asRows] at h <;> first | exact h | exact absurd rfl (hd _)
        split at h'
        · rename_i hs
          cases ha : asRows sz ds with
          | none => rw [ha] at h'; cases h'
          | some ys =>
            rw [ha] at h'
            simp only [Option.map_some, Option.some.injEq] at h'
            refine ⟨[d], ys, h'.symm, rfl, hs.symm, ?_⟩
            have : u.cells.toList = [u] := by
              cases d <;> simp only [Rep] at h1 <;> first
                | exact absurd rfl (hd _)
                | (subst h1; rfl)
                | (obtain ⟨_, rfl, _⟩ := h1; rfl)
                | (obtain ⟨_, _, rfl, _⟩ := h1; rfl)
            rw [this]
            simp only [RepL]
            exact ⟨u, [], rfl, h1, rfl⟩
        · cases h'
      cases hd : d with
      | agg cs =>
        subst hd
        simp only [asRows] at h
        split at h
        · rename_i hs
          cases ha : asRows sz ds with
          | none => rw [ha] at h; cases h
          | some ys =>
            rw [ha] at h
            simp only [Option.map_some, Option.some.injEq] at h
            simp only [Rep] at h1
            obtain ⟨vs, rfl, H⟩ := h1
            exact ⟨cs, ys, h.symm, rfl, hs, H⟩
        · cases h
      | _ => exact other (by intro cs; rw [hd]; simp)
    obtain ⟨r, ys, rfl, ha, hl, hrr⟩ := key
    have hsz : u.cells.size = sz := by have := RepL_length hrr; simpa [hl] using this
    obtain ⟨i1, i2, i3⟩ := asSlice_rows hle (o := o + sz) ha h2 (m := m) (b := b)
    refine ⟨fun v hv => ?_, by simp [i2], fun hm => ?_⟩
    · simp only [List.mem_cons] at hv
      rcases hv with rfl | hv
      · exact hsz
      · exact i1 v hv
    · simp only [RepRows]
      refine ⟨hl, RepAt.of hle hrr fun j v hj => hm j v ?_, i3 fun j v hj => ?_⟩
      · simp only [catV, List.flatMap_cons]
        rw [List.getElem?_append_left]
        · exact hj
        · rcases Nat.lt_or_ge j u.cells.toList.length with h' | h'
          · exact h'
          · rw [List.getElem?_eq_none h'] at hj; cases hj
      · have := hm (sz + j) v (by
          simp only [catV, List.flatMap_cons]
          rw [List.getElem?_append_right (by simp [hsz])]
          simpa [hsz, catV] using hj)
        rw [show o + sz + j = o + (sz + j) by omega]; exact this
theorem asSlice_rep {ek : EK} {rd m : Mem} (hle : MemLe rd m) {ds : List D} {d : D} {us : List Value} (h : asSlice ek ds = some d) (hr : RepL rd ds us) :
    (∀ u ∈ us, u.cells.size = ek.sz) ∧ ∀ b, (∀ j v, (catV us)[j]? = some v → m (cellAt b j) = some v) → Rep m d (.slice (some (cellAt b 0)) us.length us.length) := by
  cases ek with
  | ints k =>
    simp only [asSlice] at h
    cases ha : asInts k ds with
    | none => rw [ha] at h; cases h
    | some xs =>
      rw [ha] at h
      simp only [Option.map_some, Option.some.injEq] at h; subst h
      obtain ⟨h1, h2, _⟩ := asSlice_ints (m := m) (b := 0) (o := 0) ha hr
      refine ⟨h1, fun b hb => ?_⟩
      obtain ⟨_, _, h3⟩ := asSlice_ints (m := m) (b := b) (o := 0) ha hr
      simp only [Rep]
      exact ⟨_, _, by rw [h2], by omega, .inr ⟨b, 0, rfl, h3 fun j v hj => by rw [Nat.zero_add]; exact hb j v hj⟩⟩
  | flts =>
    simp only [asSlice] at h
    cases ha : asFlts ds with
    | none => rw [ha] at h; cases h
    | some xs =>
      rw [ha] at h
      simp only [Option.map_some, Option.some.injEq] at h; subst h
      obtain ⟨h1, h2, _⟩ := asSlice_flts (m := m) (b := 0) (o := 0) ha hr
      refine ⟨h1, fun b hb => ?_⟩
      obtain ⟨_, _, h3⟩ := asSlice_flts (m := m) (b := b) (o := 0) ha hr
      simp only [Rep]
      exact ⟨_, _, by rw [h2], by omega, .inr ⟨b, 0, rfl, h3 fun j v hj => by rw [Nat.zero_add]; exact hb j v hj⟩⟩
  | recs sz =>
    simp only [asSlice] at h
    cases ha : asRows sz ds with
    | none => rw [ha] at h; cases h
    | some xs =>
      rw [ha] at h
      simp only [Option.map_some, Option.some.injEq] at h; subst h
      obtain ⟨h1, h2, _⟩ := asSlice_rows hle (m := m) (b := 0) (o := 0) ha hr
      refine ⟨h1, fun b hb => ?_⟩
      obtain ⟨_, _, h3⟩ := asSlice_rows hle (m := m) (b := b) (o := 0) ha hr
      simp only [Rep]
      exact ⟨_, _, by rw [h2], by omega, .inr ⟨b, 0, rfl, h3 fun j v hj => by rw [Nat.zero_add]; exact hb j v hj⟩⟩
mutual
theorem pure_has : ∀ (v : AV), v.pure = true → ∀ j, v.has j = false
  | .d _, _, _ => by simp [AV.has]
  | .agg cs, h, j => by simpa [AV.has] using pureL_has cs (by simpa [AV.pure] using h) j
  | .box _ _, h, _ => by simp [AV.pure] at h
  | .own _ _ _, h, _ => by simp [AV.pure] at h
  | .elt _ _ _, h, _ => by simp [AV.pure] at h
  | .clo _ x y, h, j => by
    simp only [AV.pure, Bool.and_eq_true] at h
    simp [AV.has, pureL_has x h.1 j, pureL_has y h.2 j]
  | .yld _, h, _ => by simp [AV.pure] at h
  | .und, h, _ => by simp [AV.pure] at h
  | .any, h, _ => by simp [AV.pure] at h
theorem pureL_has : ∀ (vs : List AV), AV.pureL vs = true → ∀ j, AV.hasL j vs = false
  | [], _, _ => by simp [AV.hasL]
  | v :: vs, h, j => by
    simp only [AV.pureL, Bool.and_eq_true] at h
    simp [AV.hasL, pure_has v h.1 j, pureL_has vs h.2 j]
end
theorem plus_false (w : World) (rd : Mem) : MemLe (plus w (fun _ => False) rd) rd := fun a v h => by rwa [plus_off (by simp)] at h
theorem pure_reps (h : Conc N w0 rd0 R σ a w rd β) {vs : List AV} {us : List Value} {ds : List D} (hp : AV.pureL vs = true) (hd : toDs σ vs = some ds) (hr : AVRepL rd β vs us) : RepL rd ds us :=
  (toDs_rep h (S := fun _ => False) vs us ds hd hr fun i r ad hi => by rw [pureL_has vs hp i] at hi; cases hi).mono (plus_false w rd) _ _
theorem partsAt_zip : ∀ {parts : List (Nat × Operand)} {n k : Nat}, partsAt n parts k = true → n = k + parts.length ∧ (parts.map fun (i, x) => (i, a.eval x)) = ((parts.map fun x => a.eval x.2).zipIdx k).map fun x => (x.2, x.1)
  | [], n, k, h => by simp only [partsAt, beq_iff_eq] at h; simp [h]
  | (j, x) :: parts, n, k, h => by
    simp only [partsAt, Bool.and_eq_true, beq_iff_eq] at h
    obtain ⟨h1, h2⟩ := partsAt_zip h.2
    refine ⟨by simp; omega, ?_⟩
    simp only [List.map_cons, List.zipIdx_cons, h2, h.1]
theorem elemEK_size {e : TypeId} {ek : EK} (h : elemEK P e = some ek) : sizeT P e = some ek.sz ∧ 0 < ek.sz := by
  unfold elemEK at h
  split at h <;> simp only [Option.some.injEq, reduceCtorEq] at h <;> subst h <;> refine ⟨by assumption, by simp [EK.sz]⟩
theorem bsl_yields (h : Conc N w0 rd0 R σ a w rd β) {t e : TypeId} {ek : EK} {len : Nat} {parts : Array (Nat × Operand)} (hu : P.underlying t = some (.slice e)) (hek : elemEK P e = some ek)
    (hpa : partsAt len parts.toList 0 = true) (hsz : len * ek.sz ≤ 16777216) (hz : ((P.info? e).bind (·.zero)).isSome = true) {ls : List LV}
    (hls : transVs P (parts.toList.map fun _ => e) (parts.toList.map (·.2)) = some ls) {K : AV → Prop} (hk : aval Γ σ K (.bsl ek ls)) :
    Yields P N w0 rd0 R σ a w β (Instr.buildSlice t len (parts.map fun (i, x) => (i, a.eval x))) K := by
  simp only [aval] at hk
  obtain ⟨hp, hk⟩ := hk
  split at hk
  · rename_i ds hds
    split at hk
    · rename_i d hd
      have hr := transVs_rep h hls
      have hrl := pure_reps h hp hds hr
      obtain ⟨hlen, hmap⟩ := partsAt_zip (a := a) hpa
      obtain ⟨hes, hpos⟩ := elemEK_size hek
      cases hi : P.info? e with
      | none => rw [hi] at hz; cases hz
      | some i =>
        rw [hi] at hz
        cases hv : i.zero with
        | none => simp [hv] at hz
        | some z =>
          simp only [Nat.zero_add] at hlen
          have hus : (parts.toList.map (·.2)).map a.eval = parts.toList.map fun x => a.eval x.2 := by rw [List.map_map]; rfl
          rw [hus] at hrl
          obtain ⟨h1, _⟩ := asSlice_rep (MemLe.refl _) hd hrl
          obtain ⟨arr, h3, h4⟩ := fill_consec (parts.toList.map fun x => a.eval x.2) 0 ((Array.range (len * ek.sz)).map (z.cells[· % z.cells.size]!)) h1 (by rw [Array.size_map, Array.size_range, List.length_map, ← hlen, Nat.zero_add]; exact Nat.le_refl _)
          have h4' : arr.toList = catV (parts.toList.map fun x => a.eval x.2) := by
            rw [h4, List.drop_of_length_le (by rw [Array.length_toList, Array.size_map, Array.size_range, List.length_map, ← hlen, Nat.zero_add]; exact Nat.le_refl _)]
            simp
          have hb : Below w.heap.size w (w.alloc (.cells arr e)) := (Below.refl _ _).alloc (Nat.le_refl _) _
          have hm1 : MemLe rd (Fresh w (w.alloc (.cells arr e)) rd) := fun ad v hv => by
            have := lt_of_cell (h.rdw ad v hv)
            simp [Fresh, this, hv]
          refine ⟨.d d, .slice (some (cellAt w.heap.size 0)) len len, w.alloc (.cells arr e), Fresh w (w.alloc (.cells arr e)) rd, hk, ?_, ?_, ?_⟩
          · refine h.more hb hm1 (fun ad v hv => ?_) (fun ad v hv hlt => by simpa [Fresh, hlt] using hv)
            unfold Fresh at hv
            split at hv
            · rename_i hlt
              rw [World.cell?_alloc_lt _ _ _ hlt]; exact h.rdw _ _ hv
            · exact hv
          · simp only [AVRep]
            obtain ⟨_, h2⟩ := asSlice_rep hm1 hd hrl
            have := h2 w.heap.size (fun j v hj => by
              simp only [Fresh, cellAt, Nat.lt_irrefl, if_false]
              rw [World.cell?_alloc_new, ← Array.getElem?_toList, h4']
              exact hj)
            simpa [hlen] using this
          · simp only [Instr.buildSlice, Sem.run_bind, run_under hu, Result.andThen_ok, run_size hes]
            rw [if_neg (by have : (2 : Nat) ^ 24 = 16777216 := by decide
                           omega)]
            have hpm : (parts.map fun (i, x) => (i, a.eval x)).toList = ((parts.toList.map fun x => a.eval x.2).zipIdx 0).map fun x => (x.2, x.1) := by
              rw [Array.toList_map]; exact hmap
            by_cases hz0 : len * ek.sz = 0
            · have h30 : Instr.fill (fun i => some (i * ek.sz, ek.sz)) ((Array.range (len * ek.sz)).map ((#[] : Array Value)[· % (#[] : Array Value).size]!)) (((parts.toList.map fun x => a.eval x.2).zipIdx 0).map fun x => (x.2, x.1)) = some arr := by
                have he : ∀ f : Nat → Value, (Array.range 0).map f = #[] := fun f => Array.eq_empty_of_size_eq_zero (by simp)
                rw [← h3, hz0, he, he]
              simp only [Sem.run_pure, Result.andThen_ok, if_pos hz0, Sem.run_bind, hpm, h30, newRow, run_newObj]
              rfl
            · simp only [if_neg hz0, Sem.run_bind, run_zero hi hv, Sem.run_pure, Result.andThen_ok, hpm, h3, newRow, run_newObj]
              rfl
    · exact hk.elim
  · exact hk.elim
end
end RV
namespace RV
open Go Go.RowKit
section
variable {N : Nat} {w0 : Base} {rd0 : Mem} {R : BM} {σ σ' : St} {a : Act} {w : World} {rd : Mem} {β β' : BM} {P : Program} {Γ : Env}
def Done (P : Program) (N : Nat) (w0 : Base) (rd0 : Mem) (R : BM) (σ : St) (a : Act) (w : World) (β : BM) (o : Oper) (K : AV → Prop) : Prop :=
  ∃ av u w' rd', K av ∧ Conc N w0 rd0 R σ a w' rd' β ∧ AVRep rd' β av u ∧ (execOp a.eval o).run P w = .ok (.value u) w'
theorem Yields.done {s : Sem Value} {K : AV → Prop} {o : Oper} (hy : Yields P N w0 rd0 R σ a w β s K)
    (he : (execOp a.eval o).run P w = (s.run P w).andThen fun u w => .ok (.value u) w) : Done P N w0 rd0 R σ a w β o K := by
  obtain ⟨av, u, w', rd', h1, h2, h3, h4⟩ := hy
  exact ⟨av, u, w', rd', h1, h2, h3, by rw [he, h4]; rfl⟩
theorem done_here {K : AV → Prop} {o : Oper} (h : Conc N w0 rd0 R σ a w rd β) {av : AV} {u : Value} (hk : K av) (hr : AVRep rd β av u) (he : (execOp a.eval o).run P w = .ok (.value u) w) : Done P N w0 rd0 R σ a w β o K :=
  ⟨av, u, w, rd, hk, h, hr, he⟩
theorem mv_done (h : Conc N w0 rd0 R σ a w rd β) {o : Oper} {x : Operand} {t : TypeId} {v : LV} (ho : o.op = .move x ∨ o.op = .assign x) (hx : transV P t x = some v) {K : AV → Prop} (hk : K (σ.lv v)) : Done P N w0 rd0 R σ a w β o K :=
  done_here h hk (transV_rep h hx) (by rcases ho with e | e <;> simp [execOp, e])
theorem map_some {α γ : Type} {x : Option α} {f : α → γ} {y : γ} (h : x.map f = some y) : ∃ v, x = some v ∧ f v = y := by
  cases x with
  | none => cases h
  | some v => exact ⟨v, rfl, by simpa using h⟩
theorem optRep (h : Conc N w0 rd0 R σ a w rd β) {x : Option Operand} {l : Option LV} (hx : transO? P x = some l) : OptRep rd β (l.map σ.lv) (x.map a.eval) := by
  cases x with
  | none =>
    have : none = l := Option.some.inj hx
    subst this; exact trivial
  | some x =>
    obtain ⟨v, hs, rfl⟩ := map_some (show (transS P x).map some = some l from hx)
    exact transS_rep h hs
theorem run_equalIn_bool (d : Nat) {t : TypeId} (hu : P.underlying t = some .bool) (n m : Bool) (w : World) : (Op.equalIn (d + 1) t (.bool n) (.bool m)).run P w = .ok (n == m) w := by
  simp only [Op.equalIn, Sem.run_bind, run_under hu, Result.andThen_ok, Sem.run_pure]
theorem run_equal_bool {t : TypeId} (hu : P.underlying t = some .bool) (n m : Bool) (w : World) : (Op.equal t (.bool n) (.bool m)).run P w = .ok (n == m) w :=
  run_equalIn_bool 9999 hu n m w
def LOp.isCall : LOp → Bool
  | .call .. | .callv .. => true
  | _ => false
theorem assign_done (h : Conc N w0 rd0 R σ a w rd β) {o : Oper} {x : Operand} (hop : o.op = .assign x) {l : LOp} (ht : tAssign P o.type x = some l) {K : AV → Prop} (hk : aval Γ σ K l) : Done P N w0 rd0 R σ a w β o K := by
  unfold tAssign at ht
  split at ht
  · obtain ⟨ek, _, rfl⟩ := map_some ht
    simp only [aval] at hk
  · obtain ⟨v, hx, rfl⟩ := map_some ht
    exact mv_done h (.inr hop) hx hk
theorem pick_done (h : Conc N w0 rd0 R σ a w rd β) {o : Oper} {c x y : Operand} (hop : o.op = .pick c x y) {l : LOp} (ht : tPick P o.type c x y = some l) {K : AV → Prop} (hk : aval Γ σ K l) : Done P N w0 rd0 R σ a w β o K := by
  unfold tPick at ht
  split at ht
  · rename_i c' x' y' h1 h2 h3
    simp only [Option.some.injEq] at ht; subst ht
    simp only [aval] at hk
    have hc := transS_rep h h1
    split at hk
    · rename_i t hlv
      rw [hlv] at hc
      simp only [AVRep, Rep] at hc
      cases t with
      | true => exact done_here h (hk.1 rfl) (transV_rep h h2) (by simp [execOp, hop, hc, asBool])
      | false => exact done_here h (hk.2 rfl) (transV_rep h h3) (by simp [execOp, hop, hc, asBool])
    · exact hk.elim
  · cases ht
theorem load_done (h : Conc N w0 rd0 R σ a w rd β) {o : Oper} {t : TypeId} {x : Operand} (hop : o.op = .load t x) {l : LOp} (ht : tLoad P t x = some l) {K : AV → Prop} (hk : aval Γ σ K l) : Done P N w0 rd0 R σ a w β o K := by
  unfold tLoad at ht
  split at ht
  · rename_i x' n g h1 h2
    simp only [Option.some.injEq] at ht; subst ht
    simp only [aval] at hk
    exact (load_yields h2 h (transS_rep h h1) hk).done (by simp [execOp, hop])
  · cases ht
theorem nilck_done (h : Conc N w0 rd0 R σ a w rd β) {o : Oper} {x : Operand} (hop : o.op = .nilCheck x) {v : LV} (hx : transS P x = some v) {K : AV → Prop} (hk : aval Γ σ K (.nilck v)) : Done P N w0 rd0 R σ a w β o K := by
  have hr := transS_rep h hx
  simp only [aval] at hk
  split at hk
  · rename_i i off hlv
    rw [hlv] at hr
    have hr' := hr
    simp only [AVRep] at hr
    obtain ⟨r, _, hu⟩ := hr
    exact done_here h hk hr' (by simp [execOp, hop, hu])
  · rename_i i j off hlv
    rw [hlv] at hr
    have hr' := hr
    simp only [AVRep] at hr
    obtain ⟨r, _, hu⟩ := hr
    exact done_here h hk hr' (by simp [execOp, hop, hu])
  · rename_i cs hlv
    rw [hlv] at hr
    have hr' := hr
    simp only [AVRep, Rep] at hr
    obtain ⟨b, o', hu, _⟩ := hr
    exact done_here h hk hr' (by simp [execOp, hop, hu])
  · rename_i f fa fb hlv
    rw [hlv] at hr
    have hr' := hr
    simp only [AVRep, Rep] at hr
    obtain ⟨vf, vc, hu, _⟩ := hr
    exact done_here h hk hr' (by simp [execOp, hop, hu])
  · rename_i f fa fb hlv
    rw [hlv] at hr
    have hr' := hr
    simp only [AVRep] at hr
    obtain ⟨vf, vc, hu, _⟩ := hr
    exact done_here h hk hr' (by simp [execOp, hop, hu])
  · exact hk.elim
theorem bin_done (h : Conc N w0 rd0 R σ a w rd β) {o : Oper} {op : BinOp} {t t' : TypeId} {x y : Operand} (hop : o.op = .binOp op t x y t') {l : LOp} (ht : tBin P op t x y = some l) {K : AV → Prop} (hk : aval Γ σ K l) : Done P N w0 rd0 R σ a w β o K := by
  unfold tBin at ht
  split at ht
  · rename_i x' y' h1 h2
    have hrx := transS_rep h h1
    have hry := transS_rep h h2
    have hbin : aval Γ σ K (.bin op x' y') → Done P N w0 rd0 R σ a w β o K := by
      intro hk
      simp only [aval] at hk
      split at hk
      · rename_i k n k' m e1 e2
        rw [e1] at hrx; rw [e2] at hry
        simp only [AVRep, Rep] at hrx hry
        refine (binI_yields (op := op) (t := t) h hk.1 hk.2).done ?_
        simp only [execOp, hop, hrx, hry]
        cases op <;> simp [eqGuard]
      · rename_i n m e1 e2
        rw [e1] at hrx; rw [e2] at hry
        simp only [AVRep, Rep] at hrx hry
        obtain ⟨n', hn, hn'⟩ := hrx
        obtain ⟨m', hm, hm'⟩ := hry
        refine (binF_yields (op := op) (t := t) h hn' hm' hk).done ?_
        simp only [execOp, hop, hn, hm]
        cases op <;> simp [eqGuard]
      · exact hk.elim
    have hbool : ∀ {ne : Bool}, P.underlying t = some .bool → op = (if ne then .neq else .eql) → aval Γ σ K (.binb ne x' y') → Done P N w0 rd0 R σ a w β o K := by
      intro ne hu hop' hk
      simp only [aval] at hk
      split at hk
      · rename_i n m e1 e2
        rw [e1] at hrx; rw [e2] at hry
        simp only [AVRep, Rep] at hrx hry
        refine done_here h hk (u := .bool (if ne then n != m else n == m)) (by simp only [AVRep, Rep]) ?_
        cases ne <;> simp at hop' <;> subst hop' <;>
          simp [execOp, hop, hrx, hry, eqGuard, binOp, run_equal_bool hu, bne]
      · exact hk.elim
    split at ht
    · rename_i hu
      simp only [Option.some.injEq] at ht; subst ht
      exact hbool hu rfl hk
    · rename_i hu
      simp only [Option.some.injEq] at ht; subst ht
      exact hbool hu rfl hk
    · simp only [Option.some.injEq] at ht; subst ht
      exact hbin hk
    · simp only [Option.some.injEq] at ht; subst ht
      exact hbin hk
    · cases ht
  · split at ht
    · simp only [Option.some.injEq] at ht; subst ht
      simp only [aval] at hk
    · cases ht
  · cases ht
theorem un_done (h : Conc N w0 rd0 R σ a w rd β) {o : Oper} {op : UnOp} {t : TypeId} {x : Operand} (hop : o.op = .unOp op t x) {v : LV} (hx : transS P x = some v) {K : AV → Prop} (hk : aval Γ σ K (.un op v)) : Done P N w0 rd0 R σ a w β o K := by
  have hr := transS_rep h hx
  simp only [aval] at hk
  split at hk
  · rename_i b e
    rw [e] at hr
    simp only [AVRep, Rep] at hr
    exact (Yields.bool (s := Op.unary .not (a.eval x)) h hk (by simp [hr, Op.unary])).done (by simp [execOp, hop])
  · rename_i k n e
    rw [e] at hr
    simp only [AVRep, Rep] at hr
    exact (arith_here (s := Op.unary .neg (a.eval x)) h hk (by simp [hr, Op.unary, Op.intArith])).done (by simp [execOp, hop])
  · rename_i b e
    rw [e] at hr
    simp only [AVRep, Rep] at hr
    obtain ⟨y, hu, hy⟩ := hr
    refine done_here h hk (u := .float .f64 (Op.negFloat .f64 y)) (by simp only [AVRep, Rep]; exact ⟨_, rfl, by rw [neg_canon, hy]⟩) (by simp [execOp, hop, hu, Op.unary])
  · exact hk.elim
theorem conv_done (h : Conc N w0 rd0 R σ a w rd β) {o : Oper} {s t : TypeId} {x : Operand} (hop : o.op = .convert s t x) {l : LOp} (ht : tConv P s t x = some l) {K : AV → Prop} (hk : aval Γ σ K l) : Done P N w0 rd0 R σ a w β o K := by
  have fl : ∀ {x'}, (∃ d, P.underlying s = some d) → P.underlying t = some (.float .f64) → transS P x = some x' → aval Γ σ K (.convF x') → Done P N w0 rd0 R σ a w β o K := by
    rintro x' ⟨d, hs⟩ ht' hx hk
    have hr := transS_rep h hx
    simp only [aval] at hk
    split at hk
    · rename_i k' n e
      rw [e] at hr
      simp only [AVRep, Rep] at hr
      exact done_here h hk (u := .float .f64 (FloatKind.f64.nearest n)) (by simp only [AVRep, Rep]; exact ⟨_, rfl, rfl⟩) (by simp [execOp, hop, hr, convert, run_under hs, run_under ht', Conv.intToFloat])
    · rename_i b e
      rw [e] at hr
      simp only [AVRep, Rep] at hr
      obtain ⟨y, hu, hy⟩ := hr
      exact done_here h hk (u := .float .f64 y) (by simp only [AVRep, Rep]; exact ⟨_, rfl, hy⟩) (by simp [execOp, hop, hu, convert, run_under hs, run_under ht', Conv.floatToFloat])
    · exact hk.elim
  unfold tConv at ht
  split at ht
  · rename_i x' ks k hx hs ht'
    simp only [Option.some.injEq] at ht; subst ht
    have hr := transS_rep h hx
    simp only [aval] at hk
    split at hk
    · rename_i k' n e
      rw [e] at hr
      simp only [AVRep, Rep] at hr
      exact (arith_here (s := convert s t (a.eval x)) h hk (by simp [hr, convert, run_under hs, run_under ht', Conv.intToInt])).done (by simp [execOp, hop])
    · exact hk.elim
  · rename_i x' ks hx hs ht'
    simp only [Option.some.injEq] at ht; subst ht
    exact fl ⟨_, hs⟩ ht' hx hk
  · rename_i x' hx hs ht'
    simp only [Option.some.injEq] at ht; subst ht
    exact fl ⟨_, hs⟩ ht' hx hk
  · cases ht
end
end RV
namespace RV
open Go Go.RowKit
section
variable {N : Nat} {w0 : Base} {rd0 : Mem} {R : BM} {σ σ' : St} {a : Act} {w : World} {rd : Mem} {β β' : BM} {P : Program} {Γ : Env}
theorem faddr_done (h : Conc N w0 rd0 R σ a w rd β) {o : Oper} {s : TypeId} {x : Operand} {f : Nat} (hop : o.op = .fieldAddr s x f) {l : LOp} (ht : tFaddr P s x f = some l) {K : AV → Prop} (hk : aval Γ σ K l) : Done P N w0 rd0 R σ a w β o K := by
  unfold tFaddr at ht
  split at ht
  · rename_i fs x' hu hx
    split at ht
    · rename_i fd hf
      split at ht
      · rename_i n hn
        simp only [Option.some.injEq] at ht; subst ht
        have hr := transS_rep h hx
        have run : ∀ b o', a.eval x = .pointer (some (cellAt b o')) → (Instr.fieldAt s (a.eval x) f).run P w = .ok (.pointer (some (cellAt b (o' + fd.offset)))) w := by
          intro b o' e
          simp [Instr.fieldAt, run_under hu, hf, e, Instr.sureAddr, fieldPlace, run_size hn, add_cellAt]
        simp only [aval] at hk
        split at hk
        · rename_i i off e
          rw [e] at hr
          simp only [AVRep] at hr
          obtain ⟨r, hr1, hr2⟩ := hr
          exact (Yields.here h hk (by simp only [AVRep]; exact ⟨r, hr1, by rw [Nat.add_assoc]⟩) (run _ _ hr2)).done (by simp [execOp, hop])
        · rename_i i j off e
          rw [e] at hr
          simp only [AVRep] at hr
          obtain ⟨r, hr1, hr2⟩ := hr
          exact (Yields.here h hk (by simp only [AVRep]; exact ⟨r, hr1, by rw [Nat.add_assoc]⟩) (run _ _ hr2)).done (by simp [execOp, hop])
        · rename_i cs e
          rw [e] at hr
          simp only [AVRep, Rep] at hr
          obtain ⟨b, o', hr1, hr2⟩ := hr
          exact (Yields.here h hk (by simp only [AVRep, Rep]; exact ⟨b, _, rfl, hr2.drop _⟩) (run _ _ hr1)).done (by simp [execOp, hop])
        · exact hk.elim
      · cases ht
    · cases ht
  · cases ht
theorem run_part {t : TypeId} {n : Nat} {g : Bool} (ht : varT P t = some (n, g)) {cs : List AV} {vs : Array Value} (hv : AVRepL rd β cs vs.toList) {off : Nat} {K : AV → Prop}
    (hk : if g = true then off + n ≤ cs.length ∧ K (.agg ((cs.drop off).take n)) else match cs[off]? with | some v => K v | none => False) :
    ∃ av u, K av ∧ AVRep rd β av u ∧ ∀ w, (part t vs off).run P w = .ok u w := by
  cases g with
  | true =>
    simp only [if_true] at hk
    refine ⟨_, .agg (vs.extract off (off + n)), hk.2, ?_, fun w => by simp [part, run_isAgg ht, run_size (varT_size ht)]⟩
    simp only [AVRep]
    refine ⟨_, rfl, ?_⟩
    have := AVRepL_take n (AVRepL_drop off hv)
    rw [Array.toList_extract, List.extract_eq_take_drop]
    rwa [show off + n - off = n by omega]
  | false =>
    simp only [Bool.false_eq_true, if_false] at hk
    split at hk
    · rename_i c hc
      obtain ⟨u, h1, h2⟩ := AVRepL_get hv hc
      refine ⟨c, u, hk, h2, fun w => ?_⟩
      have : vs[off]? = some u := by simpa using h1
      simp [part, run_isAgg ht, this]
    · exact hk.elim
theorem field_done (h : Conc N w0 rd0 R σ a w rd β) {o : Oper} {s : TypeId} {x : Operand} {f : Nat} (hop : o.op = .field s x f) {l : LOp} (ht : tField P s x f = some l) {K : AV → Prop} (hk : aval Γ σ K l) : Done P N w0 rd0 R σ a w β o K := by
  unfold tField at ht
  split at ht
  · rename_i fs x' hu hx
    split at ht
    · rename_i fd hf
      split at ht
      · rename_i n g hn
        simp only [Option.some.injEq] at ht; subst ht
        have hr := transS_rep h hx
        simp only [aval] at hk
        split at hk
        · rename_i cs e
          rw [e] at hr
          simp only [AVRep] at hr
          obtain ⟨vs, hu', H⟩ := hr
          obtain ⟨av, u, h1, h2, h3⟩ := run_part hn H hk
          exact (Yields.here h (s := Instr.field s (a.eval x) f) h1 h2 (by simp [Instr.field, run_under hu, hf, hu', asAgg, h3])).done (by simp [execOp, hop])
        · exact hk.elim
      · cases ht
    · cases ht
  · cases ht
theorem idx_done (h : Conc N w0 rd0 R σ a w rd β) {o : Oper} {t : TypeId} {x i : Operand} (hop : o.op = .index t x i) {l : LOp} (ht : tIndex P t x i = some l) {K : AV → Prop} (hk : aval Γ σ K l) : Done P N w0 rd0 R σ a w β o K := by
  unfold tIndex at ht
  split at ht
  · rename_i len e x' i' hu hx hi
    split at ht
    · rename_i n g hn
      simp only [Option.some.injEq] at ht; subst ht
      have hrx := transS_rep h hx
      have hri := transS_rep h hi
      simp only [aval] at hk
      split at hk
      · rename_i cs k j e1 e2
        rw [e1] at hrx; rw [e2] at hri
        simp only [AVRep, Rep] at hrx hri
        obtain ⟨vs, hu', H⟩ := hrx
        obtain ⟨h0, h1, hk⟩ := hk
        obtain ⟨av, u, k1, k2, k3⟩ := run_part hn H hk
        exact (Yields.here h (s := Instr.index t (a.eval x) (a.eval i)) k1 k2 (by simp [Instr.index, hri, asIntOf, run_under hu, hu', h0, h1, run_size (varT_size hn), k3])).done (by simp [execOp, hop])
      · exact hk.elim
    · cases ht
  · cases ht
theorem iaddr_done (h : Conc N w0 rd0 R σ a w rd β) {o : Oper} {t : TypeId} {x i : Operand} (hop : o.op = .indexAddr t x i) {l : LOp} (ht : tIaddr P t x i = some l) {K : AV → Prop} (hk : aval Γ σ K l) : Done P N w0 rd0 R σ a w β o K := by
  unfold tIaddr at ht
  split at ht
  · rename_i e x' i' hu hx hi
    obtain ⟨n, hn, rfl⟩ := map_some ht
    have hrx := transS_rep h hx
    have hri := transS_rep h hi
    simp only [aval] at hk
    split at hk
    · rename_i k j e2
      rw [e2] at hri
      simp only [AVRep, Rep] at hri
      exact (iaddr_yields (k := k) hu hn h hrx hk).done (by simp [execOp, hop, hri])
    · exact hk.elim
  · rename_i len e x' i' hu hx hi
    obtain ⟨n, hn, rfl⟩ := map_some ht
    have hrx := transS_rep h hx
    have hri := transS_rep h hi
    simp only [aval] at hk
    have run : ∀ b o' k j, a.eval x = .pointer (some (cellAt b o')) → a.eval i = .int k j → 0 ≤ j → j < len → (Instr.indexAt t (a.eval x) (a.eval i)).run P w = .ok (.pointer (some (cellAt b (o' + j.toNat * n)))) w := by
      intro b o' k j e1 e2 h0 h1
      simp [Instr.indexAt, e1, e2, asIntOf, run_under hu, Instr.sureAddr, h0, h1, run_size hn, add_cellAt]
    split at hk
    · rename_i b off k j e1 e2
      rw [e1] at hrx; rw [e2] at hri
      simp only [AVRep, Rep] at hrx hri
      obtain ⟨r, hr1, hr2⟩ := hrx
      obtain ⟨h0, h1, hk⟩ := hk
      exact (Yields.here h hk (by simp only [AVRep]; exact ⟨r, hr1, by rw [Nat.add_assoc]⟩) (run _ _ _ _ hr2 hri h0 h1)).done (by simp [execOp, hop])
    · rename_i cs k j e1 e2
      rw [e1] at hrx; rw [e2] at hri
      simp only [AVRep, Rep] at hrx hri
      obtain ⟨b, o', hr1, hr2⟩ := hrx
      obtain ⟨h0, h1, hk⟩ := hk
      exact (Yields.here h hk (by simp only [AVRep, Rep]; exact ⟨b, _, rfl, hr2.drop _⟩) (run _ _ _ _ hr1 hri h0 h1)).done (by simp [execOp, hop])
    · exact hk.elim
  · cases ht
theorem RepL_get {m : Mem} : ∀ {ds : List D} {vs : List Value} {k : Nat} {d : D}, RepL m ds vs → ds[k]? = some d → ∃ v, vs[k]? = some v ∧ Rep m d v
  | c :: cs, vs, 0, c', h, hc => by
    simp only [RepL] at h
    obtain ⟨v, vs', rfl, h1, h2⟩ := h
    simp at hc; subst hc
    exact ⟨v, rfl, h1⟩
  | c :: cs, vs, k + 1, c', h, hc => by
    simp only [RepL] at h
    obtain ⟨v, vs', rfl, h1, h2⟩ := h
    have hc' : cs[k]? = some c' := by simpa using hc
    obtain ⟨x, h3, h4⟩ := RepL_get h2 hc'
    exact ⟨x, by simpa using h3, h4⟩
theorem extr_done (h : Conc N w0 rd0 R σ a w rd β) {o : Oper} {x : Operand} {i : Nat} (hop : o.op = .extract x i) {v : LV} (hx : transS P x = some v) {K : AV → Prop} (hk : aval Γ σ K (.extr i v)) : Done P N w0 rd0 R σ a w β o K := by
  have hr := transS_rep h hx
  simp only [aval] at hk
  split at hk
  · rename_i ds e
    rw [e] at hr
    simp only [AVRep, Rep] at hr
    obtain ⟨vs, hu, H⟩ := hr
    split at hk
    · rename_i d hd
      obtain ⟨u, h1, h2⟩ := RepL_get H hd
      have h1' : vs[i]? = some u := by simpa using h1
      exact (Yields.here h (s := Instr.extract (a.eval x) i) hk (ofD_rep h2) (by simp [Instr.extract, hu, h1'])).done (by simp [execOp, hop])
    · exact hk.elim
  · exact hk.elim
theorem isSliceT_spec {t : TypeId} (h : isSliceT P t = true) : ∃ e, P.underlying t = some (.slice e) := by
  unfold isSliceT at h
  split at h
  · rename_i e he; exact ⟨e, he⟩
  · cases h
theorem builtin_done (h : Conc N w0 rd0 R σ a w rd β) {o : Oper} {b : Builtin} {args : Array Operand} {ts : Array TypeId} (hop : o.op = .call { callee := .builtin b, args, argTypes := ts }) {l : LOp}
    (ht : tBuiltin P b args.toList ts.toList = some l) {K : AV → Prop} (hk : aval Γ σ K l) : Done P N w0 rd0 R σ a w β o K := by
  unfold tBuiltin at ht
  split at ht
  · rename_i x t ha hts
    split at ht
    · rename_i hs
      obtain ⟨e, hu⟩ := isSliceT_spec hs
      obtain ⟨v, hx, rfl⟩ := map_some ht
      have hr := transS_rep h hx
      have ha' : args = #[x] := by rw [← Array.toList_inj]; exact ha
      have hts' : ts = #[t] := by rw [← Array.toList_inj]; exact hts
      subst ha' hts'
      have run : ∀ A n cap, a.eval x = .slice A n cap → (Builtin.len_ #[t] o.type #[a.eval x]).run P w = .ok (.int .i64 n) w := by
        intro A n cap e
        simp [Builtin.len_, run_under hu, e, goInt]
      have fin : ∀ {n : Nat}, K (.d (.int .i64 n)) → (∃ A cap, a.eval x = .slice A n cap) → Done P N w0 rd0 R σ a w β o K := by
        rintro n hk ⟨A, cap, e⟩
        refine (Yields.int (s := Builtin.len_ #[t] o.type #[a.eval x]) h hk (run _ _ _ e)).done ?_
        simp [execOp, hop, resolve, invoke, builtin]
      simp only [aval, lenA] at hk
      generalize σ.lv v = y at hr hk
      split at hk <;> first
        | (simp only [AVRep, Rep] at hr; obtain ⟨A, cap, h1, _⟩ := hr; exact fin hk ⟨A, cap, h1⟩)
        | exact hk.elim
    · cases ht
  · rename_i x y ha
    split at ht
    · rename_i x' y' hx hy
      simp only [Option.some.injEq] at ht; subst ht
      have hrx := transS_rep h hx
      have hry := transS_rep h hy
      have ha' : args = #[x, y] := by rw [← Array.toList_inj]; exact ha
      subst ha'
      simp only [aval] at hk
      split at hk
      · rename_i k n k' m e1 e2
        rw [e1] at hrx; rw [e2] at hry
        simp only [AVRep, Rep] at hrx hry
        refine (Yields.int (s := Builtin.max_ ts o.type #[a.eval x, a.eval y]) h hk ?_).done ?_
        · simp [Builtin.max_, hrx, hry, Builtin.max2]
        · simp [execOp, hop, resolve, invoke, builtin]
      · exact hk.elim
    · cases ht
  · rename_i x y ha
    split at ht
    · rename_i x' y' hx hy
      simp only [Option.some.injEq] at ht; subst ht
      have hrx := transS_rep h hx
      have hry := transS_rep h hy
      have ha' : args = #[x, y] := by rw [← Array.toList_inj]; exact ha
      subst ha'
      simp only [aval] at hk
      split at hk
      · rename_i k n k' m e1 e2
        rw [e1] at hrx; rw [e2] at hry
        simp only [AVRep, Rep] at hrx hry
        refine (Yields.int (s := Builtin.min_ ts o.type #[a.eval x, a.eval y]) h hk ?_).done ?_
        · simp [Builtin.min_, hrx, hry, Builtin.min2]
        · simp [execOp, hop, resolve, invoke, builtin]
      · exact hk.elim
    · cases ht
  · split at ht
    · split at ht
      · simp only [Option.some.injEq] at ht; subst ht; simp only [aval] at hk
      · cases ht
    · cases ht
  · split at ht
    · split at ht
      · simp only [Option.some.injEq] at ht; subst ht; simp only [aval] at hk
      · cases ht
    · cases ht
  · cases ht
theorem slice_done (h : Conc N w0 rd0 R σ a w rd β) {o : Oper} {t : TypeId} {x : Operand} {lo hi mx : Option Operand} (hop : o.op = .slice t x lo hi mx) {l : LOp} (ht : tSlice P t x lo hi mx = some l) {K : AV → Prop} (hk : aval Γ σ K l) : Done P N w0 rd0 R σ a w β o K := by
  unfold tSlice at ht
  split at ht
  · rename_i e x' hu hx
    split at ht
    · rename_i n lo' hi' hn hlo hhi
      simp only [Option.some.injEq] at ht; subst ht
      simp only [aval] at hk
      exact (slc_yields hu hn h (transS_rep h hx) (optRep h hlo) (optRep h hhi) hk).done (by simp [execOp, hop])
    · cases ht
  · cases ht
theorem bslice_done (h : Conc N w0 rd0 R σ a w rd β) {o : Oper} {t : TypeId} {len : Nat} {parts : Array (Nat × Operand)} (hop : o.op = .buildSlice t len parts) {l : LOp} (ht : tBsl P t len parts = some l) {K : AV → Prop} (hk : aval Γ σ K l) : Done P N w0 rd0 R σ a w β o K := by
  unfold tBsl at ht
  split at ht
  · rename_i e hu
    split at ht
    · rename_i ek hek
      split at ht
      · rename_i hz
        split at ht
        · split at ht
          · simp only [Option.some.injEq] at ht; subst ht; simp only [aval] at hk
          · cases ht
        · split at ht
          · rename_i hc
            simp only [Bool.and_eq_true, decide_eq_true_eq] at hc
            obtain ⟨ls, hls, rfl⟩ := map_some ht
            exact (bsl_yields h hu hek hc.1 hc.2 hz hls hk).done (by simp [execOp, hop])
          · cases ht
      · cases ht
    · cases ht
  · cases ht
theorem mkfn_done (h : Conc N w0 rd0 R σ a w rd β) {o : Oper} {f : Nat} {fst cap : Array Operand} (hop : o.op = .makeFunc (.func f) fst cap) {l : LOp} (ht : tMkfn P f fst cap = some l) {K : AV → Prop} (hk : aval Γ σ K l) : Done P N w0 rd0 R σ a w β o K := by
  unfold tMkfn at ht
  split at ht
  · rename_i x y hx hy
    simp only [Option.some.injEq] at ht; subst ht
    have hr1 := transVs_rep h hx
    have hr2 := transVs_rep h hy
    have he : (execOp a.eval o).run P w = .ok (.value (.func (.func f) (fst.map a.eval) (cap.map a.eval))) w := by simp [execOp, hop, Instr.makeFunc]
    simp only [aval] at hk
    split at hk
    · rename_i hp
      simp only [Bool.and_eq_true] at hp
      split at hk
      · rename_i d1 d2 h1 h2
        have r1 := pure_reps h hp.1 h1 hr1
        have r2 := pure_reps h hp.2 h2 hr2
        exact done_here h hk (by simp only [AVRep, Rep]; exact ⟨_, _, rfl, by simpa using r1, by simpa using r2⟩) he
      · exact hk.elim
    · exact done_here h hk (by simp only [AVRep]; exact ⟨_, _, rfl, by simpa using hr1, by simpa using hr2⟩) he
  · cases ht
theorem aval_done (h : Conc N w0 rd0 R σ a w rd β) {o : Oper} {l : LOp} (ht : transOp P o.type o.op = some l) (hc : l.isCall = false) {K : AV → Prop} (hk : aval Γ σ K l) : Done P N w0 rd0 R σ a w β o K := by
  cases hop : o.op with
  | assign x => rw [hop] at ht; exact assign_done h hop ht hk
  | move x => rw [hop] at ht; obtain ⟨v, hx, rfl⟩ := map_some ht; exact mv_done h (.inl hop) hx hk
  | pick c x y => rw [hop] at ht; exact pick_done h hop ht hk
  | alloc e => rw [hop] at ht; obtain ⟨z, _, rfl⟩ := map_some ht; simp only [aval] at hk
  | box e x => rw [hop] at ht; obtain ⟨z, _, rfl⟩ := map_some ht; simp only [aval] at hk
  | load t x => rw [hop] at ht; exact load_done h hop ht hk
  | store t x y =>
    rw [hop] at ht
    simp only [transOp, tStore] at ht
    split at ht
    · simp only [Option.some.injEq] at ht; subst ht; simp only [aval] at hk
    · cases ht
  | nilCheck x => rw [hop] at ht; obtain ⟨v, hx, rfl⟩ := map_some ht; exact nilck_done h hop hx hk
  | binOp op t x y t' => rw [hop] at ht; exact bin_done h hop ht hk
  | unOp op t x => rw [hop] at ht; obtain ⟨v, hx, rfl⟩ := map_some ht; exact un_done h hop hx hk
  | convert s t x => rw [hop] at ht; exact conv_done h hop ht hk
  | fieldAddr s x f => rw [hop] at ht; exact faddr_done h hop ht hk
  | field s x f => rw [hop] at ht; exact field_done h hop ht hk
  | indexAddr t x i => rw [hop] at ht; exact iaddr_done h hop ht hk
  | index t x i => rw [hop] at ht; exact idx_done h hop ht hk
  | extract x i => rw [hop] at ht; obtain ⟨v, hx, rfl⟩ := map_some ht; exact extr_done h hop hx hk
  | makeFunc f x y =>
    rw [hop] at ht
    cases f with
    | func f => exact mkfn_done h hop ht hk
    | _ => cases ht
  | makeSlice t x y =>
    rw [hop] at ht
    simp only [transOp, tMake] at ht
    split at ht
    · split at ht
      · split at ht
        · simp only [Option.some.injEq] at ht; subst ht; simp only [aval] at hk
        · cases ht
      · cases ht
    · cases ht
  | slice t x lo hi mx => rw [hop] at ht; exact slice_done h hop ht hk
  | build t parts => rw [hop] at ht; exact (build_yields h ht hk).done (by simp [execOp, hop])
  | buildSlice t len parts => rw [hop] at ht; exact bslice_done h hop ht hk
  | call c =>
    rw [hop] at ht
    cases c with
    | mk callee args ts =>
      cases callee with
      | builtin b => exact builtin_done h hop ht hk
      | invoke r m => cases ht
      | value x =>
        simp only [transOp, tCall] at ht
        split at ht
        · rename_i e; cases e
        · obtain ⟨v, hx, rfl⟩ := map_some ht; simp [LOp.isCall] at hc
        · split at ht
          · simp only [Option.some.injEq] at ht; subst ht; simp [LOp.isCall] at hc
          · cases ht
        · cases ht
  | panic x => rw [hop] at ht; have : LOp.bad = l := Option.some.inj ht; subst this; simp only [aval] at hk
  | makeInterface t x => rw [hop] at ht; have : LOp.bad = l := Option.some.inj ht; subst this; simp only [aval] at hk
  | _ => rw [hop] at ht; cases ht
end
end RV
namespace RV
open Go Go.RowKit
def GoodFn (P : Program) (f : Nat) : Prop := ∃ fn, P.funcs[f]? = some fn ∧ (fn.name == "runtime.NumGoroutine") = false ∧ fn.body.isNone = false
def OwnPost (w w' : World) (d : D) (v : Value) : Prop :=
  ∃ c n A cap, ownD d = some (c, n) ∧ v = .slice A n cap ∧ n ≤ cap ∧ ((n = 0 ∧ cap = 0) ∨
    ∃ r : Reg, r.whole = true ∧ w.heap.size ≤ r.blk ∧ Phys w' r ∧ BCOk w' (fun _ => none) (fun _ => none) r c ∧ A = some (cellAt r.blk r.off) ∧ cap * r.sz ≤ r.len)
def Post (C : Ct) (rd : Mem) (w w' : World) (d : D) (v : Value) : Prop :=
  (C.own = false → Rep (Fresh w w' rd) d v) ∧ (C.own = true → OwnPost w w' d v)
theorem Post.rep {C : Ct} {rd : Mem} {w w' : World} {d : D} {v : Value} (h : Post C rd w w' d v) : Rep (Fresh w w' rd) d v := by
  cases hc : C.own with
  | false => exact h.1 hc
  | true =>
    obtain ⟨c, n, A, cap, hd, rfl, hn, hA⟩ := h.2 hc
    have hfr : ∀ {r : Reg}, w.heap.size ≤ r.blk → ∀ i, Fresh w w' rd (cellAt r.blk i) = w'.cell? (cellAt r.blk i) := fun {r} hr i => by
      unfold Fresh
      exact if_neg (fun hlt => by simp only [cellAt] at hlt; omega)
    cases d with
    | ints k xs =>
      simp only [ownD, Option.some.injEq, Prod.mk.injEq] at hd
      obtain ⟨rfl, rfl⟩ := hd
      simp only [Rep]
      refine ⟨A, cap, rfl, hn, ?_⟩
      rcases hA with ⟨h0, _⟩ | ⟨r, _, hr, _, hb, hA, _⟩
      · exact .inl (List.eq_nil_of_length_eq_zero h0)
      · exact .inr ⟨r.blk, r.off, hA, RepInts.cells (fun i _ _ => hfr hr i) hb.2.2⟩
    | flts xs =>
      simp only [ownD, Option.some.injEq, Prod.mk.injEq] at hd
      obtain ⟨rfl, rfl⟩ := hd
      simp only [Rep]
      refine ⟨A, cap, rfl, hn, ?_⟩
      rcases hA with ⟨h0, _⟩ | ⟨r, _, hr, _, hb, hA, _⟩
      · exact .inl (List.eq_nil_of_length_eq_zero h0)
      · exact .inr ⟨r.blk, r.off, hA, RepFlts.cells (fun i _ _ => hfr hr i) hb.2.2⟩
    | _ => simp [ownD] at hd
def OkFn (P : Program) (B : Mem) (f : Nat) (C : Ct) : Prop :=
  GoodFn P f ∧ ∀ ds, C.pre ds → ∀ w rd vs, MemLe B rd → MemLe rd w.cell? → RepL rd ds vs.toList →
    Calls P f vs w fun e w' => ∃ v, e = .returned v ∧ Below w.heap.size w w' ∧ Post C rd w w' (C.res ds) v
def EnvOkF (P : Program) (B : Mem) (Γ : Env) : Prop := ∀ f C, Γ.fn f = some C → OkFn P B f C
mutual
theorem Rep_flat {m m' : Mem} : ∀ (d : D) (v : Value), d.flat = true → Rep m d v → Rep m' d v
  | .bool _, _, _, H => by simpa only [Rep] using H
  | .int _ _, _, _, H => by simpa only [Rep] using H
  | .flt _, _, _, H => by simpa only [Rep] using H
  | .ints _ _, _, h, _ => by simp [D.flat] at h
  | .flts _, _, h, _ => by simp [D.flat] at h
  | .recs _ _, _, h, _ => by simp [D.flat] at h
  | .ptr _, _, h, _ => by simp [D.flat] at h
  | .agg cs, _, h, H => by
    simp only [Rep] at *
    obtain ⟨vs, e, H⟩ := H
    exact ⟨vs, e, RepL_flat cs _ (by simpa [D.flat] using h) H⟩
  | .tup cs, _, h, H => by
    simp only [Rep] at *
    obtain ⟨vs, e, H⟩ := H
    exact ⟨vs, e, RepL_flat cs _ (by simpa [D.flat] using h) H⟩
  | .fn _ _ _, _, h, _ => by simp [D.flat] at h
  | .nilfn, _, h, _ => by simp [D.flat] at h
  | .nilp, _, h, _ => by simp [D.flat] at h
theorem RepL_flat {m m' : Mem} : ∀ (ds : List D) (vs : List Value), D.flatL ds = true → RepL m ds vs → RepL m' ds vs
  | [], _, _, H => by simpa only [RepL] using H
  | d :: ds, _, h, H => by
    simp only [D.flatL, Bool.and_eq_true] at h
    simp only [RepL] at *
    obtain ⟨v, us, e, h1, h2⟩ := H
    exact ⟨v, us, e, Rep_flat d v h.1 h1, RepL_flat ds us h.2 h2⟩
end
section
variable {N : Nat} {w0 : Base} {rd0 : Mem} {R : BM} {σ σ' : St} {a : Act} {w : World} {rd : Mem} {β β' : BM} {P : Program} {Γ : Env}
theorem below_le {w1 : World} (hb : Below w.heap.size w w1) {m : Mem} (h : MemLe m w.cell?) : MemLe m w1.cell? := fun ad v e => by
  rw [cell_of_block (hb.block _ (lt_of_cell (h ad v e)))]; exact h ad v e
theorem fresh_le {w1 : World} (hb : Below w.heap.size w w1) {m : Mem} (h : MemLe m w.cell?) : MemLe (Fresh w w1 m) w1.cell? := fun ad v e => by
  unfold Fresh at e
  split at e
  · exact below_le hb h ad v e
  · exact e
theorem le_fresh {w1 : World} {m : Mem} (h : MemLe m w.cell?) : MemLe m (Fresh w w1 m) := fun ad v e => by
  simp [Fresh, lt_of_cell (h ad v e), e]
theorem Conc.fresh (h : Conc N w0 rd0 R σ a w rd β) {w1 : World} (hb : Below w.heap.size w w1) : Conc N w0 rd0 R σ a w1 (Fresh w w1 rd) β :=
  h.more hb (le_fresh h.rdw) (fresh_le hb h.rdw) fun ad v e hl => by simpa [Fresh, hl] using e
theorem Conc.below (h : Conc N w0 rd0 R σ a w rd β) {w1 : World} (hb : Below w.heap.size w w1) : Conc N w0 rd0 R σ a w1 rd β :=
  h.more hb (MemLe.refl _) (below_le hb h.rdw) fun _ _ e _ => e
theorem run_callFunc {f : Nat} (hg : GoodFn P f) (vs : Array Value) (w : World) : (callFunc f vs).run P w = .ok (.enter f vs) w := by
  obtain ⟨fn, h1, h2, h3⟩ := hg
  have h2' : ¬ fn.name = "runtime.NumGoroutine" := by simpa using h2
  have h3' : ¬ fn.body = none := fun e => by rw [e] at h3; cases h3
  simp [callFunc, h1, h2', h3']
theorem wp_enter {o : Oper} {f : Nat} {C : Ct} (hf : OkFn P rd0 f C) {vs : Array Value} (hr : (execOp a.eval o).run P w = .ok (.enter f vs) w) {m : Mem} (hB : MemLe rd0 m) (hm : MemLe m w.cell?) {ds : List D} (hp : C.pre ds)
    (hd : RepL m ds vs.toList) {next : Act → World → Prop} {Q : Exit → Act → World → Prop} (hn : ∀ v w1, Below w.heap.size w w1 → Post C m w w1 (C.res ds) v → next (a.put o.dst v) w1) : o.wp P a w next Q := by
  unfold Oper.wp
  rw [hr, Oper.upon_enter]
  refine (hf.2 ds hp w m vs hB hm hd).mono ?_
  rintro e w1 ⟨v, rfl, h1, h2⟩
  exact hn v w1 h1 h2
theorem exec_call {o : Oper} {f : Nat} {args : Array Operand} {ts : Array TypeId} (hop : o.op = .call { callee := .value (.func f), args, argTypes := ts }) (hg : GoodFn P f) :
    (execOp a.eval o).run P w = .ok (.enter f (args.map a.eval)) w := by
  simp [execOp, hop, resolve, Act.eval, Deferred.ofValue, invoke, run_callFunc hg]
theorem exec_callv {o : Oper} {x : Operand} {f : Nat} {vf vc : Array Value} {args : Array Operand} {ts : Array TypeId} (hop : o.op = .call { callee := .value x, args, argTypes := ts }) (hx : a.eval x = .func (.func f) vf vc) (hg : GoodFn P f) :
    (execOp a.eval o).run P w = .ok (.enter f (vf ++ args.map a.eval ++ vc)) w := by
  simp [execOp, hop, resolve, hx, Deferred.ofValue, invoke, run_callFunc hg]
theorem RepL_append {m : Mem} : ∀ {ds es : List D} {vs us : List Value}, RepL m ds vs → RepL m es us → RepL m (ds ++ es) (vs ++ us)
  | [], es, vs, us, h, k => by simp only [RepL] at h; simpa [h] using k
  | d :: ds, es, vs, us, h, k => by
    simp only [RepL, List.cons_append] at *
    obtain ⟨v, vs', rfl, h1, h2⟩ := h
    exact ⟨v, vs' ++ us, rfl, h1, RepL_append h2 k⟩
theorem ofD_flat {m m' : Mem} {d : D} {v : Value} (hf : d.flat = true) (h : Rep m d v) : AVRep m' β (ofD d) v := ofD_rep (Rep_flat d v hf h)
theorem call_plain (hΓ : EnvOkF P rd0 Γ) (h : Conc N w0 rd0 R σ a w rd β) {o : Oper} {l : LOp} (ht : transOp P o.type o.op = some l) (hc : l.isCall = true) {K : AV → Prop} (hk : aval Γ σ K l)
    (hcl : ∀ x as, l = .callv x as → ∀ f u v, σ.lv x ≠ .clo f u v)
    {next : Act → World → Prop} {Q : Exit → Act → World → Prop} (hn : ∀ av u w' rd', K av → Conc N w0 rd0 R σ a w' rd' β → AVRep rd' β av u → next (a.put o.dst u) w') : o.wp P a w next Q := by
  have fin : ∀ {f : Nat} {C : Ct} {vs : Array Value} {as : List AV} {us : List Value} {ds pre post : List D} {vp vq : List Value}, OkFn P rd0 f C → toDs σ as = some ds → AVRepL rd β as us → RepL rd pre vp → RepL rd post vq →
      vs.toList = vp ++ us ++ vq → (execOp a.eval o).run P w = .ok (.enter f vs) w → C.pre (pre ++ ds ++ post) → ((C.res (pre ++ ds ++ post)).flat = true ∨ AV.pureL as = true) → K (ofD (C.res (pre ++ ds ++ post))) → o.wp P a w next Q := by
    intro f C vs as us ds pre post vp vq hC hds has hpre hpost hvs hr hp hfp hk
    rcases hfp with hfl | hpu
    · have hd := toDs_rep h (S := Places β as) as us ds hds has fun i r ad hi hr' had => ⟨i, r, hi, hr', had⟩
      refine wp_enter hC hr (m := plus w (Places β as) rd) (h.rdm.trans (le_plus _ _ _)) (plus_le h.rdw) hp (by rw [hvs]; exact RepL_append (RepL_append (hpre.mono (le_plus _ _ _) _ _) hd) (hpost.mono (le_plus _ _ _) _ _)) ?_
      intro v w1 hb hv
      exact hn _ v w1 rd hk (h.below hb) (ofD_flat hfl hv.rep)
    · have hd := pure_reps h hpu hds has
      refine wp_enter hC hr h.rdm h.rdw hp (by rw [hvs]; exact RepL_append (RepL_append hpre hd) hpost) ?_
      intro v w1 hb hv
      exact hn _ v w1 _ hk (h.fresh hb) (ofD_rep hv.rep)
  have nilR : RepL rd [] [] := by simp only [RepL]
  cases hop : o.op with
  | call c =>
    rw [hop] at ht
    cases c with
    | mk callee args ts =>
      have callv : ∀ x x' as, transS P x = some x' → transVs P ts.toList args.toList = some as → o.op = .call { callee := .value x, args, argTypes := ts } → (∀ f u v, σ.lv x' ≠ .clo f u v) → aval Γ σ K (.callv x' as) → o.wp P a w next Q := by
        intro x x' as hx has hop hcl hk
        have hrx := transS_rep h hx
        simp only [aval] at hk
        split at hk
        · rename_i f fst cap e
          rw [e] at hrx
          simp only [AVRep, Rep] at hrx
          obtain ⟨vf, vc, hu, r1, r2⟩ := hrx
          split at hk
          · rename_i ds C hds hC
            have hok := hΓ f C hC
            exact fin hok hds (transVs_rep h has) r1 r2 (by simp) (exec_callv hop hu hok.1) hk.1 hk.2.1 hk.2.2
          · exact hk.elim
        · rename_i e
          exact absurd e (hcl _ _ _)
        · exact hk.elim
      cases callee with
      | builtin b =>
        exfalso
        simp only [transOp, tCall, tBuiltin] at ht
        split at ht
        · split at ht
          · obtain ⟨v, _, rfl⟩ := map_some ht; simp [LOp.isCall] at hc
          · cases ht
        · split at ht
          · simp only [Option.some.injEq] at ht; subst ht; simp [LOp.isCall] at hc
          · cases ht
        · split at ht
          · simp only [Option.some.injEq] at ht; subst ht; simp [LOp.isCall] at hc
          · cases ht
        · split at ht
          · split at ht
            · simp only [Option.some.injEq] at ht; subst ht; simp [LOp.isCall] at hc
            · cases ht
          · cases ht
        · split at ht
          · split at ht
            · simp only [Option.some.injEq] at ht; subst ht; simp [LOp.isCall] at hc
            · cases ht
          · cases ht
        · cases ht
      | invoke r m => cases ht
      | value x =>
        simp only [transOp, tCall] at ht
        split at ht
        · rename_i e; cases e
        · rename_i f e
          simp only [Callee.value.injEq] at e
          subst e
          obtain ⟨as, has, rfl⟩ := map_some ht
          simp only [aval] at hk
          split at hk
          · rename_i ds C hds hC
            have hok := hΓ f C hC
            exact fin (pre := []) (post := []) hok hds (transVs_rep h has) nilR nilR (by simp) (exec_call hop hok.1) (by simpa using hk.1) (by simpa using hk.2.1) (by simpa using hk.2.2)
          · exact hk.elim
        · rename_i x' hne e
          simp only [Callee.value.injEq] at e
          subst e
          split at ht
          · rename_i x' as hx has
            simp only [Option.some.injEq] at ht; subst ht
            exact callv _ _ _ hx has hop (hcl _ _ rfl) hk
          · cases ht
        · cases ht
  | makeFunc f x y =>
    exfalso
    rw [hop] at ht
    cases f with
    | func f =>
      simp only [transOp, tMkfn] at ht
      split at ht
      · simp only [Option.some.injEq] at ht; subst ht; simp [LOp.isCall] at hc
      · cases ht
    | _ => cases ht
  | _ =>
    exfalso
    rw [hop] at ht
    first
      | (cases ht; done)
      | (obtain ⟨v, _, rfl⟩ := map_some ht; simp [LOp.isCall] at hc; done)
      | (have := Option.some.inj ht; subst this; simp [LOp.isCall] at hc; done)
      | (simp only [transOp, tAssign, tPick, tLoad, tStore, tBin, tConv, tFaddr, tField, tIaddr, tIndex, tMake, tSlice, tBuild, tBsl] at ht
         repeat' (split at ht)
         all_goals first
           | (cases ht; done)
           | (obtain ⟨v, _, rfl⟩ := map_some ht; simp [LOp.isCall] at hc; done)
           | (simp only [Option.some.injEq] at ht; subst ht; simp [LOp.isCall] at hc; done))
end
end RV
namespace RV
open Go Go.RowKit
section
variable {N : Nat} {w0 : Base} {rd0 : Mem} {R : BM} {σ σ' : St} {a : Act} {w : World} {rd : Mem} {β β' : BM} {P : Program} {Γ : Env}
def regNew (w : World) (n sz : Nat) : Reg := ⟨w.heap.size, 0, n, sz, true⟩
def bmSet (β : BM) (i : Nat) (r : Option Reg) : BM := fun j => if j = i then r else β j
theorem phys_new (w : World) (arr : Array Value) (e : TypeId) (sz : Nat) : Phys (w.alloc (.cells arr e)) (regNew w arr.size sz) :=
  ⟨arr, e, (0, 0), Array.getElem?_push_size, by simp [regNew], fun o _ _ => by simp, fun _ => ⟨rfl, rfl, rfl⟩⟩
theorem cell_new (w : World) (arr : Array Value) (e : TypeId) (j : Nat) : (w.alloc (.cells arr e)).cell? (cellAt w.heap.size j) = arr[j]? := World.cell?_alloc_new _ _ _ _
theorem CellsOk.of_vals {w' : World} {b : Nat} : ∀ {cs : List AV} {vs : List Value} {o : Nat}, AVRepL rd β cs vs → (∀ j, j < vs.length → w'.cell? (cellAt b (o + j)) = vs[j]?) → CellsOk w' rd β b o cs
  | [], _, _, _, _ => trivial
  | c :: cs, vs, o, h, hc => by
    simp only [AVRepL] at h
    obtain ⟨v, us, rfl, h1, h2⟩ := h
    refine ⟨⟨v, by simpa using hc 0 (by simp), h1⟩, CellsOk.of_vals h2 fun j hj => ?_⟩
    have := hc (j + 1) (by simpa using hj)
    rw [show o + 1 + j = o + (j + 1) by omega]
    simpa using this
mutual
theorem AVRep.ext (hβ : ∀ j r, β j = some r → β' j = some r) : ∀ (x : AV) (v : Value), AVRep rd β x v → AVRep rd β' x v
  | .d x, _, H => by simpa only [AVRep] using H
  | .agg cs, _, H => by
    simp only [AVRep] at *
    obtain ⟨vs, e, H⟩ := H
    exact ⟨vs, e, AVRepL.ext hβ cs _ H⟩
  | .box i _, _, H => by
    simp only [AVRep] at *
    obtain ⟨r, h1, h2⟩ := H
    exact ⟨r, hβ _ _ h1, h2⟩
  | .own i _ _, _, H => by
    simp only [AVRep] at *
    obtain ⟨A, cap, h1, h2, h3⟩ := H
    exact ⟨A, cap, h1, h2, h3.imp id fun ⟨r, k1, k2⟩ => ⟨r, hβ _ _ k1, k2⟩⟩
  | .elt i _ _, _, H => by
    simp only [AVRep] at *
    obtain ⟨r, h1, h2⟩ := H
    exact ⟨r, hβ _ _ h1, h2⟩
  | .clo _ x y, _, H => by
    simp only [AVRep] at *
    obtain ⟨vf, vc, e, H1, H2⟩ := H
    exact ⟨vf, vc, e, AVRepL.ext hβ x _ H1, AVRepL.ext hβ y _ H2⟩
  | .yld _, _, H => by simpa only [AVRep] using H
  | .und, _, H => by simpa only [AVRep] using H
  | .any, _, _ => by simp only [AVRep]
theorem AVRepL.ext (hβ : ∀ j r, β j = some r → β' j = some r) : ∀ (xs : List AV) (vs : List Value), AVRepL rd β xs vs → AVRepL rd β' xs vs
  | [], _, H => by simpa only [AVRepL] using H
  | x :: xs, _, H => by
    simp only [AVRepL] at *
    obtain ⟨v, us, e, h1, h2⟩ := H
    exact ⟨v, us, e, AVRep.ext hβ x v h1, AVRepL.ext hβ xs us h2⟩
end
structure Renew (σ σ' : St) (i : Nat) (b : Bx) (rd : Mem) (β : BM) (f : AV → AV) : Prop where
  rep : ∀ r x v, AVRep rd β x v → AVRep rd (bmSet β i r) (f x) v
  tm : σ'.tm = fun t => f (σ.tm t)
  bx : ∀ j, σ'.bx j = if j = i then some b else (σ.bx j).map (Bx.mapf f)
theorem renew_fresh (σ : St) (i : Nat) (b : Bx) : Renew σ (σ.fresh i b) i b rd β (AV.kill i) :=
  ⟨fun r x v h => AVRep.kill (fun j hj => by simp [bmSet, hj]) h, rfl, fun j => by
    simp only [St.fresh, updb]
    split
    · rfl
    · cases σ.bx j with
      | none => rfl
      | some b => simp [Bx.kill_eq]⟩
theorem renew_first (h : Conc N w0 rd0 R σ a w rd β) {i : Nat} (hi : σ.bx i = none) (b : Bx) : Renew σ (σ.setb i b) i b rd β (fun v => v) :=
  ⟨(fun r x v hx => by
    have hβ : β i = none := by
      cases e : β i with
      | none => rfl
      | some r => obtain ⟨b, hb, _⟩ := h.box i r e; rw [hi] at hb; cases hb
    refine AVRep.ext (fun j r' hj => ?_) _ _ hx
    by_cases e : j = i
    · subst e; rw [hβ] at hj; cases hj
    · simpa [bmSet, e] using hj), rfl, fun j => by
    simp only [St.setb, updb]
    split
    · rfl
    · cases σ.bx j with
      | none => rfl
      | some b => simp [Bx.mapf_id]⟩
theorem new_var (h : Conc N w0 rd0 R σ a w rd β) {i : Nat} {cs : List AV} {arr : Array Value} {e : TypeId} {f : AV → AV} (hr : Renew σ σ' i ⟨false, false, .cells cs⟩ rd β f)
    (hcs : AVRepL rd (bmSet β i (some (regNew w arr.size 1))) cs arr.toList) :
    Conc N w0 rd0 R σ' a (w.alloc (.cells arr e)) rd (bmSet β i (some (regNew w arr.size 1))) := by
  refine h.new (i := i) (b := ⟨false, false, .cells cs⟩) rfl (r := regNew w arr.size 1) rfl rfl (hr.rep _) hr.tm hr.bx ?_ (phys_new _ _ _ _)
  refine ⟨by have := AVRepL_length hcs; simp at this; simp [regNew, this], ?_⟩
  refine CellsOk.of_vals hcs fun j hj => ?_
  show (w.alloc (.cells arr e)).cell? (cellAt w.heap.size (0 + j)) = _
  rw [Nat.zero_add, cell_new, Array.getElem?_toList]
theorem RepInts.of_cells {m : Mem} {k : IntKind} {b : Nat} : ∀ {xs : List Int} {o : Nat}, (∀ j x, xs[j]? = some x → m (cellAt b (o + j)) = some (.int k x)) → RepInts m k b o xs
  | [], _, _ => trivial
  | x :: xs, o, h => ⟨by simpa using h 0 x rfl, RepInts.of_cells fun j y hj => by
      have := h (j + 1) y (by simpa using hj)
      rw [show o + 1 + j = o + (j + 1) by omega]; exact this⟩
theorem RepFlts.of_cells {m : Mem} {b : Nat} : ∀ {xs : List Nat} {o : Nat}, (∀ j x, xs[j]? = some x → ∃ y, m (cellAt b (o + j)) = some (.float .f64 y) ∧ fcanon y = x) → RepFlts m b o xs
  | [], _, _ => trivial
  | x :: xs, o, h => ⟨by simpa using h 0 x rfl, RepFlts.of_cells fun j y hj => by
      have := h (j + 1) y (by simpa using hj)
      rw [show o + 1 + j = o + (j + 1) by omega]; exact this⟩
theorem DCells.of_vals {w' : World} {b : Nat} : ∀ {ds : List D} {vs : List Value} {o : Nat}, RepL rd ds vs → (∀ j v, vs[j]? = some v → w'.cell? (cellAt b (o + j)) = some v) → DCells w' rd b o ds
  | [], _, _, _, _ => trivial
  | d :: ds, vs, o, h, hc => by
    simp only [RepL] at h
    obtain ⟨v, us, rfl, h1, h2⟩ := h
    refine ⟨⟨v, by simpa using hc 0 v rfl, h1⟩, DCells.of_vals h2 fun j u hj => ?_⟩
    have := hc (j + 1) u (by simpa using hj)
    rw [show o + 1 + j = o + (j + 1) by omega]; exact this
theorem RowsOk.replicate {w' : World} {b sz : Nat} {z : List D} (hz : z.length = sz) : ∀ {n o : Nat}, (∀ q, q < n → DCells w' rd b (o + q * sz) z) → RowsOk w' rd b sz o (List.replicate n z)
  | 0, _, _ => trivial
  | n + 1, o, h => by
    rw [List.replicate_succ]
    refine ⟨hz, by simpa using h 0 (by omega), RowsOk.replicate hz fun q hq => ?_⟩
    have := h (q + 1) (by omega)
    rw [show o + sz + q * sz = o + (q + 1) * sz by rw [Nat.succ_mul]; omega]; exact this
theorem zeros_get {z : Array Value} {n size j : Nat} {v : Value} (hs : z.size = size) (hj : j < n * size) (hv : z[j % size]? = some v) : ((Array.range (n * size)).map (z[· % z.size]!))[j]? = some v := by
  have hlt : j % size < z.size := by
    rcases Nat.lt_or_ge (j % size) z.size with h | h
    · exact h
    · rw [Array.getElem?_eq_none h] at hv; cases hv
  rw [Array.getElem?_map, Array.getElem?_range]
  simp only [hj, if_true, Option.map_some, Option.some.injEq, hs]
  rw [getElem!_pos z _ hlt]
  rw [Array.getElem?_eq_getElem hlt] at hv
  simpa using hv
theorem newArr_ok {ek : EK} {z : List D} {zs : Array Value} {n : Nat} {c : BC} (hc : newArr ek z n = some c) (hz : RepL rd z zs.toList) (hsz : zs.size = ek.sz) {w' : World} {r : Reg} (hr : r.sz = ek.sz) (hl : n * ek.sz ≤ r.len)
    (hcell : ∀ j v, j < n * ek.sz → zs[j % ek.sz]? = some v → w'.cell? (cellAt r.blk (r.off + j)) = some v) : BCOk w' rd β r c := by
  unfold newArr at hc
  split at hc
  · rename_i k k'
    split at hc
    · rename_i hk
      subst hk
      simp only [Option.some.injEq] at hc; subst hc
      simp only [RepL, Rep] at hz
      obtain ⟨v, us, hv, rfl, rfl⟩ := hz
      simp only [EK.sz] at *
      refine ⟨hr, by simpa using hl, RepInts.of_cells fun j x hj => ?_⟩
      have hlt : j < n := by
        rcases Nat.lt_or_ge j n with h | h
        · exact h
        · rw [List.getElem?_eq_none (by simpa using h)] at hj; cases hj
      rw [List.getElem?_replicate] at hj
      simp only [hlt, if_true, Option.some.injEq] at hj
      subst hj
      refine hcell j _ (by omega) ?_
      rw [Nat.mod_one, ← Array.getElem?_toList, hv]; rfl
    · cases hc
  · simp only [Option.some.injEq] at hc; subst hc
    simp only [RepL, Rep] at hz
    obtain ⟨v, us, hv, ⟨y, rfl, hy⟩, rfl⟩ := hz
    simp only [EK.sz] at *
    refine ⟨hr, by simpa using hl, RepFlts.of_cells fun j x hj => ?_⟩
    have hlt : j < n := by
      rcases Nat.lt_or_ge j n with h | h
      · exact h
      · rw [List.getElem?_eq_none (by simpa using h)] at hj; cases hj
    rw [List.getElem?_replicate] at hj
    simp only [hlt, if_true, Option.some.injEq] at hj
    subst hj
    refine ⟨y, hcell j _ (by omega) ?_, hy⟩
    rw [Nat.mod_one, ← Array.getElem?_toList, hv]; rfl
  · rename_i sz
    split at hc
    · rename_i hl'
      simp only [Option.some.injEq] at hc; subst hc
      simp only [EK.sz] at *
      refine ⟨hr, by simpa using hl, RowsOk.replicate hl' fun q hq => ?_⟩
      refine DCells.of_vals hz fun j v hj => ?_
      have hjl : j < sz := by
        rcases Nat.lt_or_ge j sz with h | h
        · exact h
        · rw [List.getElem?_eq_none (by simp [hsz]; exact h)] at hj; cases hj
      have hlt : q * sz + j < n * sz := by
        have : (q + 1) * sz ≤ n * sz := Nat.mul_le_mul_right _ hq
        rw [Nat.succ_mul] at this; omega
      have := hcell (q * sz + j) v hlt (by
        rw [Nat.mul_comm, Nat.mul_add_mod, Nat.mod_eq_of_lt hjl, ← Array.getElem?_toList]; exact hj)
      rw [Nat.add_assoc]; exact this
    · cases hc
  · cases hc
theorem new_arr (h : Conc N w0 rd0 R σ a w rd β) {i : Nat} {c : BC} {arr : Array Value} {e : TypeId} {sz : Nat} {f : AV → AV} (hr : Renew σ σ' i ⟨false, false, c⟩ rd β f)
    (hc : BCOk (w.alloc (.cells arr e)) rd (bmSet β i (some (regNew w arr.size sz))) (regNew w arr.size sz) c) :
    Conc N w0 rd0 R σ' a (w.alloc (.cells arr e)) rd (bmSet β i (some (regNew w arr.size sz))) :=
  h.new (i := i) (b := ⟨false, false, c⟩) rfl (r := regNew w arr.size sz) rfl rfl (hr.rep _) hr.tm hr.bx hc (phys_new _ _ _ _)
theorem new_nil (h : Conc N w0 rd0 R σ a w rd β) {i : Nat} {c : BC} {f : AV → AV} (hr : Renew σ σ' i ⟨false, false, c⟩ rd β f) (hn : c.isNil = true) : Conc N w0 rd0 R σ' a w rd (bmSet β i none) :=
  h.newNil (i := i) (b := ⟨false, false, c⟩) rfl hn (hr.rep _) hr.tm hr.bx
end
end RV
namespace RV
open Go Go.RowKit
def BC.esz : BC → Nat
  | .cells _ => 0
  | .recs sz _ => sz
  | _ => 1
def BC.elems : BC → List D
  | .cells _ => []
  | .ints k xs => xs.map (.int k)
  | .flts xs => xs.map .flt
  | .recs _ xs => xs.flatten
def BC.wf : BC → Prop
  | .recs sz xs => ∀ r ∈ xs, r.length = sz
  | _ => True
def BC.arr : BC → Bool
  | .cells _ => false
  | _ => true
def D.bc : D → Option BC
  | .ints k xs => some (.ints k xs)
  | .flts xs => some (.flts xs)
  | .recs sz xs => some (.recs sz xs)
  | _ => none
theorem flatten_length {α : Type} {sz : Nat} : ∀ {xs : List (List α)}, (∀ r ∈ xs, r.length = sz) → xs.flatten.length = xs.length * sz
  | [], _ => by simp
  | x :: xs, h => by
    rw [List.flatten_cons, List.length_append, flatten_length fun r hr => h r (by simp [hr]), h x (by simp), List.length_cons, Nat.succ_mul, Nat.add_comm]
theorem flatten_take {α : Type} {sz : Nat} : ∀ {xs : List (List α)} (n : Nat), (∀ r ∈ xs, r.length = sz) → (xs.take n).flatten = xs.flatten.take (n * sz)
  | [], n, _ => by simp
  | x :: xs, 0, _ => by simp
  | x :: xs, n + 1, h => by
    rw [List.take_succ_cons, List.flatten_cons, List.flatten_cons, flatten_take n fun r hr => h r (by simp [hr]), List.take_append]
    have := h x (by simp)
    rw [List.take_of_length_le (l := x) (by rw [this, Nat.succ_mul]; omega), this, show (n + 1) * sz - sz = n * sz by rw [Nat.succ_mul]; omega]
theorem flatten_drop {α : Type} {sz : Nat} : ∀ {xs : List (List α)} (n : Nat), (∀ r ∈ xs, r.length = sz) → (xs.drop n).flatten = xs.flatten.drop (n * sz)
  | [], n, _ => by simp
  | x :: xs, 0, _ => by simp
  | x :: xs, n + 1, h => by
    rw [List.drop_succ_cons, List.flatten_cons, flatten_drop n fun r hr => h r (by simp [hr]), List.drop_append]
    have := h x (by simp)
    rw [List.drop_of_length_le (l := x) (by rw [this, Nat.succ_mul]; omega), this, show (n + 1) * sz - sz = n * sz by rw [Nat.succ_mul]; omega, List.nil_append]
theorem elems_length {c : BC} (h : c.wf) (ha : c.arr = true) : c.elems.length = c.count * c.esz := by
  cases c with
  | cells cs => cases ha
  | ints k xs => simp [BC.elems, BC.count, BC.esz]
  | flts xs => simp [BC.elems, BC.count, BC.esz]
  | recs sz xs => exact flatten_length h
section
variable {N : Nat} {w0 : Base} {rd0 : Mem} {R : BM} {σ σ' : St} {a : Act} {w w' : World} {rd : Mem} {β β' : BM} {P : Program} {Γ : Env}
theorem CellsOk.append {b : Nat} : ∀ {xs ys : List AV} {o : Nat}, CellsOk w rd β b o (xs ++ ys) ↔ CellsOk w rd β b o xs ∧ CellsOk w rd β b (o + xs.length) ys
  | [], ys, o => by simp [CellsOk]
  | x :: xs, ys, o => by
    simp only [List.cons_append, CellsOk, CellsOk.append (xs := xs), List.length_cons]
    rw [show o + 1 + xs.length = o + (xs.length + 1) by omega, and_assoc]
theorem DCells.iff {b : Nat} : ∀ {ds : List D} {o : Nat}, DCells w rd b o ds ↔ CellsOk w rd β b o (ds.map .d)
  | [], _ => by simp [DCells, CellsOk]
  | d :: ds, o => by simp only [DCells, CellsOk, List.map_cons, DCells.iff (ds := ds), AVRep]
theorem DCells.append {b : Nat} : ∀ {xs ys : List D} {o : Nat}, DCells w rd b o (xs ++ ys) ↔ DCells w rd b o xs ∧ DCells w rd b (o + xs.length) ys
  | [], ys, o => by simp [DCells]
  | x :: xs, ys, o => by
    simp only [List.cons_append, DCells, DCells.append (xs := xs), List.length_cons]
    rw [show o + 1 + xs.length = o + (xs.length + 1) by omega, and_assoc]
theorem DCells.ints {b : Nat} {k : IntKind} : ∀ {xs : List Int} {o : Nat}, RepInts w.cell? k b o xs ↔ DCells w rd b o (xs.map (.int k))
  | [], _ => by simp [DCells, RepInts]
  | x :: xs, o => by
    simp only [RepInts, List.map_cons, DCells, Rep, DCells.ints (xs := xs)]
    constructor
    · rintro ⟨h1, h2⟩; exact ⟨⟨_, h1, rfl⟩, h2⟩
    · rintro ⟨⟨u, h1, rfl⟩, h2⟩; exact ⟨h1, h2⟩
theorem DCells.flts {b : Nat} : ∀ {xs : List Nat} {o : Nat}, RepFlts w.cell? b o xs ↔ DCells w rd b o (xs.map .flt)
  | [], _ => by simp [DCells, RepFlts]
  | x :: xs, o => by
    simp only [RepFlts, List.map_cons, DCells, Rep, DCells.flts (xs := xs)]
    constructor
    · rintro ⟨⟨y, h1, e⟩, h2⟩; exact ⟨⟨_, h1, y, rfl, e⟩, h2⟩
    · rintro ⟨⟨u, h1, y, rfl, e⟩, h2⟩; exact ⟨⟨y, h1, e⟩, h2⟩
theorem DCells.rows {b sz : Nat} : ∀ {xs : List (List D)} {o : Nat}, RowsOk w rd b sz o xs ↔ (∀ r ∈ xs, r.length = sz) ∧ DCells w rd b o xs.flatten
  | [], _ => by simp [DCells, RowsOk]
  | x :: xs, o => by
    simp only [RowsOk, List.flatten_cons, DCells.append, DCells.rows (xs := xs), List.mem_cons, forall_eq_or_imp]
    constructor
    · rintro ⟨rfl, h2, h3, h4⟩; exact ⟨⟨rfl, h3⟩, h2, h4⟩
    · rintro ⟨⟨rfl, h3⟩, h2, h4⟩; exact ⟨rfl, h2, h3, h4⟩
theorem BCOk.elems {r : Reg} {c : BC} (ha : c.arr = true) : BCOk w rd β r c ↔ r.sz = c.esz ∧ c.count * c.esz ≤ r.len ∧ c.wf ∧ DCells w rd r.blk r.off c.elems := by
  cases c with
  | cells cs => cases ha
  | ints k xs => simp only [BCOk, BC.esz, BC.count, BC.wf, BC.elems, true_and, Nat.mul_one]; rw [DCells.ints]
  | flts xs => simp only [BCOk, BC.esz, BC.count, BC.wf, BC.elems, true_and, Nat.mul_one]; rw [DCells.flts]
  | recs sz xs => simp only [BCOk, BC.esz, BC.count, BC.wf, BC.elems]; rw [DCells.rows]
theorem DCells.vals {b : Nat} : ∀ {ds : List D} {o : Nat}, DCells w rd b o ds → ∃ us : List Value, RepL rd ds us ∧ us.length = ds.length ∧ ∀ j x, us[j]? = some x → w.cell? (cellAt b (o + j)) = some x
  | [], _, _ => ⟨[], by simp only [RepL], rfl, by simp⟩
  | d :: ds, o, ⟨⟨u, h1, h2⟩, h3⟩ => by
    obtain ⟨us, k1, k2, k3⟩ := DCells.vals h3
    refine ⟨u :: us, by simp only [RepL]; exact ⟨u, us, rfl, h2, k1⟩, by simp [k2], fun j x hj => ?_⟩
    cases j with
    | zero => simp only [List.getElem?_cons_zero, Option.some.injEq] at hj; subst hj; exact h1
    | succ j => rw [show o + (j + 1) = o + 1 + j by omega]; exact k3 j x (by simpa using hj)
theorem CellsOk.write {b o p : Nat} {xs vs : List AV} (h : CellsOk w rd β b o xs) (hp : p + vs.length ≤ xs.length) (hv : CellsOk w' rd β b (o + p) vs)
    (hout : ∀ k, ¬ (o + p ≤ k ∧ k < o + p + vs.length) → w'.cell? (cellAt b k) = w.cell? (cellAt b k)) :
    CellsOk w' rd β b o (xs.take p ++ vs ++ xs.drop (p + vs.length)) := by
  have hl : (xs.take p).length = p := by rw [List.length_take]; omega
  rw [CellsOk.append, CellsOk.append, hl, List.length_append, hl]
  refine ⟨⟨?_, hv⟩, ?_⟩
  · exact (h.take p).mono (fun i h1 h2 => hout i (by rw [hl] at h2; omega)) (fun _ _ _ H => H)
  · rw [show o + (p + vs.length) = o + (p + vs.length) from rfl]
    exact (h.drop (p + vs.length)).mono (fun i h1 h2 => hout i (by omega)) (fun _ _ _ H => H)
theorem DCells.write {b o p : Nat} {xs vs : List D} (h : DCells w rd b o xs) (hp : p + vs.length ≤ xs.length) (hv : DCells w' rd b (o + p) vs)
    (hout : ∀ k, ¬ (o + p ≤ k ∧ k < o + p + vs.length) → w'.cell? (cellAt b k) = w.cell? (cellAt b k)) :
    DCells w' rd b o (xs.take p ++ vs ++ xs.drop (p + vs.length)) := by
  have := CellsOk.write (w' := w') (p := p) ((DCells.iff (β := fun _ => none)).1 h) (vs := vs.map .d) (by simpa using hp) (DCells.iff.1 hv) (by simpa using hout)
  rw [DCells.iff (β := fun _ => none)]
  simpa [List.map_take, List.map_drop] using this
theorem setCell_form {b k : Nat} {arr : Array Value} {t : TypeId} {fz : Nat × Nat} (hw : w.heap[b]? = some (.cells arr t fz)) (v : Value) :
    w.setCell ⟨b, k, none⟩ v = { w with heap := w.heap.setIfInBounds b (.cells (arr.setIfInBounds k v) t fz) } := by
  unfold World.setCell
  congr 1
  apply Array.ext_getElem?
  intro j
  rw [Array.getElem?_modify]
  by_cases e : b = j
  · subst e
    have hlt := (Array.getElem?_eq_some_iff.1 hw).1
    rw [Array.getElem?_setIfInBounds_self_of_lt hlt, if_pos rfl, hw]
    simp
  · rw [Array.getElem?_setIfInBounds_ne e, if_neg e]
theorem setCells_form {b : Nat} {t : TypeId} {fz : Nat × Nat} : ∀ (vs : List Value) (o : Nat) {w : World} {arr : Array Value}, w.heap[b]? = some (.cells arr t fz) →
    ∃ arr', w.setCells b o vs = { w with heap := w.heap.setIfInBounds b (.cells arr' t fz) } ∧ arr'.size = arr.size ∧ ∀ k, ¬ (o ≤ k ∧ k < o + vs.length) → arr'[k]? = arr[k]?
  | [], o, w, arr, hw => ⟨arr, by
      have hlt := (Array.getElem?_eq_some_iff.1 hw).1
      rw [World.setCells]
      have : w.heap.setIfInBounds b (.cells arr t fz) = w.heap := by
        apply Array.ext_getElem?
        intro j
        by_cases e : b = j
        · subst e; rw [Array.getElem?_setIfInBounds_self_of_lt hlt, hw]
        · rw [Array.getElem?_setIfInBounds_ne e]
      rw [this], rfl, fun _ _ => rfl⟩
  | v :: vs, o, w, arr, hw => by
    have hlt := (Array.getElem?_eq_some_iff.1 hw).1
    have hs := setCell_form (k := o) hw v
    obtain ⟨arr', h1, h2, h3⟩ := setCells_form vs (o + 1) (w := w.setCell ⟨b, o, none⟩ v) (arr := arr.setIfInBounds o v) (by rw [hs]; exact Array.getElem?_setIfInBounds_self_of_lt hlt)
    refine ⟨arr', ?_, by simpa using h2, fun k hk => ?_⟩
    · rw [World.setCells, h1, hs]
      simp
    · rw [h3 k (by simp at hk; omega), Array.getElem?_setIfInBounds_ne (by simp at hk; omega)]
theorem Conc.write (h : Conc N w0 rd0 R σ a w rd β) {i : Nat} {r : Reg} (hi : β i = some r) {e : Bool} {c : BC} (hx : σ.bx i = some ⟨false, e, c⟩) {vs : List Value} {p : Nat} (hp : p + vs.length ≤ r.len) (h1 : ∀ v ∈ vs, v.oneCell' = true) :
    ∃ w', (storeCells (cellAt r.blk (r.off + p)) vs).run P w = .ok () w' ∧ (∀ c', BCOk w' rd β r c' → Conc N w0 rd0 R (σ.setb i ⟨false, e, c'⟩) a w' rd β) ∧
      (∀ j v, vs[j]? = some v → w'.cell? (cellAt r.blk (r.off + p + j)) = some v) ∧ (∀ k, ¬ (r.off + p ≤ k ∧ k < r.off + p + vs.length) → w'.cell? (cellAt r.blk k) = w.cell? (cellAt r.blk k)) := by
  obtain ⟨b, hx', hc, ⟨arr, t, fz, hw, hsz, hfz, _⟩, _⟩ := h.box i r hi
  have hcell : ∀ j, j < vs.length → (w.cell? (cellAt r.blk (r.off + p + j))).isSome = true := fun j hj => by
    simp only [World.cell?, cellAt, hw]
    simp; omega
  have hfr : ∀ j, j < vs.length → w.frozen? (cellAt r.blk (r.off + p + j)) = false := fun j hj => by
    have := hfz (r.off + p + j) (by omega) (by omega)
    have e : w.heap[(cellAt r.blk (r.off + p + j)).block]? = some (.cells arr t fz) := hw
    simp only [World.frozen?, e]
    show (decide (fz.1 ≤ r.off + p + j) && decide (r.off + p + j < fz.2)) = false
    rw [Bool.and_eq_false_iff, decide_eq_false_iff_not, decide_eq_false_iff_not]
    omega
  have hrun := run_storeCells_cells (P := P) r.blk (r.off + p) vs 0 w (by simpa [cellAt] using hcell) (by simpa [cellAt] using hfr) h1
  obtain ⟨arr', f1, f2, f3⟩ := setCells_form vs (r.off + p) hw
  refine ⟨w.setCells r.blk (r.off + p) vs, by simpa [cellAt] using hrun, fun c' hc' => ?_, fun j v hj => ?_, fun k hk => ?_⟩
  · rw [f1] at hc' ⊢
    exact h.store hi hx hw f2 (fun k hk => f3 k (by omega)) hc'
  · have hlt : j < vs.length := (List.getElem?_eq_some_iff.1 hj).1
    have := World.cell?_setCells_in r.blk vs (r.off + p) w (by simpa [cellAt] using hcell) j hlt
    rw [cellAt, this, ← hj, List.getElem?_eq_getElem hlt]
  · exact World.cell?_setCells_out r.blk vs (r.off + p) w (cellAt r.blk k) (fun _ _ => by simp only [cellAt]; omega)
end
end RV
