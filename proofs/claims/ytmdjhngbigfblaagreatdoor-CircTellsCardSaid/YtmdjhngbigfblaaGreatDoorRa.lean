/- Lemmas for a claim: an abstract machine for the translated code, proved sound, and contracts of functions. By an AI agent. -/
import Derived.Orders
import Derived.Below
import Derived.KernelRfl
import Derived.OwnWalk
import Derived.IntWalk
import Derived.Laws.IdiomCopy
set_option linter.all false
namespace RV
open Go
def xH:Nat:=0x7ff8000000000001
def fG (b:Nat):Nat:=if (Ieee.double.read b).isNaN then xH else b
inductive D where
 |bool (b:Bool)
 |int (k:IntKind) (n:Int)
 |flt (x:Nat)
 |ints (k:IntKind) (xs:List Int)
 |flts (xs:List Nat)
 |recs (sz:Nat) (xs:List (List D))
 |ptr (cs:List D)
 |agg (cs:List D)
 |ep (ds:List D)
 |fn (f:Nat) (fst cap:List D)
 |nilfn
 |nilp
 deriving Inhabited
abbrev Mem:=Addr→Option Value
def cellAt (b o:Nat):Addr:=⟨b,o,none⟩
def fb (rd:Mem) (k:IntKind) (b:Nat):Nat→List Int→Prop
 |_,[]=>True
 |o,x::xs=>rd (cellAt b o)=some (.int k x)∧fb rd k b (o+1) xs
def fk (rd:Mem) (b:Nat):Nat→List Nat→Prop
 |_,[]=>True
 |o,x::xs=>(∃y,rd (cellAt b o)=some (.float .f64 y)∧fG y=x)∧fk rd b (o+1) xs
mutual
def bn (rd:Mem):D→Value→Prop
 | .bool b,v=>v= .bool b
 | .int k n,v=>v= .int k n
 | .flt x,v=>∃y,v= .float .f64 y∧fG y=x
 | .ints k xs,v=>∃A cap,v= .slice A xs.length cap∧xs.length≤cap∧(xs=[]∨∃b o,A=some (cellAt b o)∧fb rd k b o xs)
 | .flts xs,v=>∃A cap,v= .slice A xs.length cap∧xs.length≤cap∧(xs=[]∨∃b o,A=some (cellAt b o)∧fk rd b o xs)
 | .recs sz xs,v=>∃A cap,v= .slice A xs.length cap∧xs.length≤cap∧(xs=[]∨∃b o,A=some (cellAt b o)∧fc rd b sz o xs)
 | .ptr cs,v=>∃b o,v= .pointer (some (cellAt b o))∧eY rd b o cs
 | .agg cs,v=>∃vs,v= .agg vs∧bI rd cs vs.toList
 | .ep ds,v=>∃vs,v= .tuple vs∧bI rd ds vs.toList
 | .fn f fst cap,v=>∃e8 vc,v= .func (.func f) e8 vc∧bI rd fst e8.toList∧bI rd cap vc.toList
 | .nilfn,v=>v= .nilFunc
 | .nilp,v=>v= .pointer none
def bI (rd:Mem):List D→List Value→Prop
 |[],vs=>vs=[]
 |d::ds,vs=>∃v us,vs=v::us∧bn rd d v∧bI rd ds us
def eY (rd:Mem) (b:Nat):Nat→List D→Prop
 |_,[]=>True
 |o,d::ds=>(∃v,rd (cellAt b o)=some v∧bn rd d v)∧eY rd b (o+1) ds
def fc (rd:Mem) (b sz:Nat):Nat→List (List D)→Prop
 |_,[]=>True
 |o,r::rs=>r.length=sz∧eY rd b o r∧fc rd b sz (o+sz) rs
end
def bT (r r':Mem):Prop:=∀a v,r a=some v→r' a=some v
theorem bT.refl (r:Mem):bT r r:=fun _ _ h=>h
theorem bT.trans {a b c:Mem} (h:bT a b) (k:bT b c):bT a c:=fun x v ah=>k x v (h x v ah)
theorem fb.mono {r r':Mem} (h:bT r r') {k b} :∀{o xs},fb r k b o xs→fb r' k b o xs
 |_,[],_=>trivial
 |_,_::_,⟨h1,h2⟩=>⟨h _ _ h1,fb.mono h h2⟩
theorem fk.mono {r r':Mem} (h:bT r r') {b} :∀{o xs},fk r b o xs→fk r' b o xs
 |_,[],_=>trivial
 |_,_::_,⟨⟨y,h1,e⟩,h2⟩=>⟨⟨y,h _ _ h1,e⟩,fk.mono h h2⟩
mutual
theorem bn.mono {r r':Mem} (h:bT r r'):∀(d:D) (v:Value),bn r d v→bn r' d v
 | .bool _,_,H=>by simpa only[bn]using H
 | .int _ _,_,H=>by simpa only[bn]using H
 | .flt _,_,H=>by simpa only[bn]using H
 | .ints _ _,_,H=>by
   simp only[bn]at*
   obtain⟨A,c,e,l,H⟩:=H
   exact⟨A,c,e,l,H.imp id fun⟨b,o,e,H⟩=>⟨b,o,e,H.mono h⟩⟩
 | .flts _,_,H=>by
   simp only[bn]at*
   obtain⟨A,c,e,l,H⟩:=H
   exact⟨A,c,e,l,H.imp id fun⟨b,o,e,H⟩=>⟨b,o,e,H.mono h⟩⟩
 | .recs sz xs,_,H=>by
   simp only[bn]at*
   obtain⟨A,c,e,l,H⟩:=H
   exact⟨A,c,e,l,H.imp id fun⟨b,o,e,H⟩=>⟨b,o,e,fc.mono h xs o H⟩⟩
 | .ptr cs,_,H=>by
   simp only[bn]at*
   obtain⟨b,o,e,H⟩:=H
   exact⟨b,o,e,eY.mono h cs o H⟩
 | .agg cs,_,H=>by
   simp only[bn]at*
   obtain⟨vs,e,H⟩:=H
   exact⟨vs,e,bI.mono h cs _ H⟩
 | .ep cs,_,H=>by
   simp only[bn]at*
   obtain⟨vs,e,H⟩:=H
   exact⟨vs,e,bI.mono h cs _ H⟩
 | .fn _ a b,_,H=>by
   simp only[bn]at*
   obtain⟨e8,vc,e,H,akq⟩:=H
   exact⟨e8,vc,e,bI.mono h a _ H,bI.mono h b _ akq⟩
 | .nilfn,_,H=>by simpa only[bn]using H
 | .nilp,_,H=>by simpa only[bn]using H
theorem bI.mono {r r':Mem} (h:bT r r'):∀(ds:List D) (vs:List Value),bI r ds vs→bI r' ds vs
 |[],_,H=>by simpa only[bI]using H
 |d::ds,_,H=>by
  simp only[bI]at*
  obtain⟨v,us,e,h1,h2⟩:=H
  exact⟨v,us,e,bn.mono h d v h1,bI.mono h ds us h2⟩
theorem eY.mono {r r':Mem} (h:bT r r') {b:Nat} :∀(ds:List D) (o:Nat),eY r b o ds→eY r' b o ds
 |[],_,_=>by simp only[eY]
 |d::ds,o,H=>by
  simp only[eY]at*
  obtain⟨⟨v,e,h1⟩,h2⟩:=H
  exact⟨⟨v,h _ _ e,bn.mono h d v h1⟩,eY.mono h ds _ h2⟩
theorem fc.mono {r r':Mem} (h:bT r r') {b sz:Nat} :∀(rs:List (List D)) (o:Nat),fc r b sz o rs→fc r' b sz o rs
 |[],_,_=>by simp only[fc]
 |d::ds,o,H=>by
  simp only[fc]at*
  exact⟨H.1,eY.mono h d o H.2.1,fc.mono h ds _ H.2.2⟩
end
inductive bk where
 |t (n:Nat)
 |c (d:D)
 deriving Inhabited
inductive ag where
 |d (x:D)
 |agg (cs:List ag)
 |box (i off:Nat)
 |own (i lo n:Nat)
 |dr (i j off:Nat)
 |c0 (f:Nat) (fst cap:List ag)
 |c6 (l:Nat)
 |c1
 |any
 deriving Inhabited
inductive dL where
 |ints (k:IntKind)
 |flts
 |recs (sz:Nat)
def dL.sz:dL→Nat
 | .recs sz=>sz
 |_=>1
inductive BC where
 |cells (cs:List ag)
 |ints (k:IntKind) (xs:List Int)
 |flts (xs:List Nat)
 |recs (sz:Nat) (xs:List (List D))
structure b1 where
 cd:Bool
 ext:Bool
 c:BC
structure St where
 af:Nat→ag
 aw:Nat→Option b1
def ag.pair:ag→Option (Int×Int)
 | .d (.agg [.int .i64 a,.int .i64 b])=>some (a,b)
 | .agg [.d (.int .i64 a),.d (.int .i64 b)]=>some (a,b)
 |_=>none
inductive bo where
 |bx (x:bk)
 |pick (c a b:bk)
 |load (n:Nat) (g:Bool) (x:bk)
 |pF (x:bk)
 |bin (op:BinOp) (x y:bk)
 |kL (ne:Bool) (x y:bk)
 |oN (ne:Bool) (x y:bk)
 |un (op:UnOp) (x:bk)
 |conv (k:IntKind) (x:bk)
 |oA (x:bk)
 |dA (off:Nat) (x:bk)
 |rr (off n:Nat) (g:Bool) (x:bk)
 |q0 (sz:Nat) (x i:bk)
 |q1 (len sz:Nat) (x i:bk)
 |idx (len n:Nat) (g:Bool) (x i:bk)
 |lC (i:Nat) (x:bk)
 |len (x:bk)
 |jW (x y:bk)
 |sc (x y:bk)
 |ru (sz:Nat) (x:bk) (lo hi:Option bk)
 |build (zero:List D) (parts:List (Nat×Nat×bk))
 |hM (ek:dL) (parts:List bk)
 |q6 (f:Nat) (fst cap:List bk)
 |call (f:Nat) (args:List bk)
 |gj (x:bk) (args:List bk)
 |alloc (zero:List D)
 |box (x:bk)
 |kT (ek:dL) (zero:List D) (len:bk)
 |nil (ek:dL)
 |store (n:Nat) (a x:bk)
 |app (ek:dL) (x y:bk)
 |copy (ek:dL) (x y:bk)
 |q2 (x:bk)
 |bad
structure bE where
 dst:Option Nat
 op:bo
 guard:Option (Nat×Bool)
inductive au where
 |skip
 |dc (ops:List bE)
 |jh (pre:List (bE×List Nat)) (oO:List bE)
 |seq (a b:au)
 |cond (c:bk) (a b:au)
 |block (id:Nat) (a:au)
 |loop (a:au)
 |exit (id:Nat)
 |ret
inductive bl where
 |tmp (t:Nat)
 |cell (t n:Nat) (g:Bool)
structure bq where
 pre:List D→Prop
 res:List D→D
 own:Bool:=false
structure fL where
 pre:List ag→List BC→Prop
 res:List ag→List BC→D
 out:List ag→List BC→List BC
structure Env where
 fn:Nat→Option bq
 mt:Nat→Option fL
def aG (z:Int):Prop:= -9223372036854775808≤z∧z≤9223372036854775807
def arith (k:IntKind) (z:Int) (K:ag→Prop):Prop:=
 match k with
 | .i64=>aG z∧K (.d (.int .i64 z))
 |k=>K (.d (.int k (k.wrap z)))
def ji (k:IntKind) (x y:Int):Int:=k.wrap (BitVec.ofInt k.bits x &&& BitVec.ofInt k.bits y).toNat
def ya (k:IntKind) (x y:Int):Int:=k.wrap (BitVec.ofInt k.bits x|||BitVec.ofInt k.bits y).toNat
def Sj (k:IntKind) (x y:Int):Int:=k.wrap (BitVec.ofInt k.bits x^^^BitVec.ofInt k.bits y).toNat
def OU (k:IntKind) (x y:Int):Int:=k.wrap (BitVec.ofInt k.bits x &&& ~~~ BitVec.ofInt k.bits y).toNat
def oP (r:Option Nat):Nat:=match r with|some r=>fG r|none=>xH
def Sk (x y:Nat):Nat:=oP (Ieee.double.add x y)
def Sl (x y:Nat):Nat:=oP (Ieee.double.sub x y)
def Sm (x y:Nat):Nat:=oP (Ieee.double.mul x y)
def fdiv (x y:Nat):Nat:=oP (Ieee.double.div x y)
def Bm (x:Nat):Nat:=fG (Op.negFloat .f64 x)
def flt (x y:Nat):Bool:=Ieee.double.order x y==some .lt
def B5 (x y:Nat):Bool:=Ieee.double.order x y==some .eq
def Ud (x y:Nat):Bool:=Ieee.double.order x y==some .lt||Ieee.double.order x y==some .eq
def Ue (x y:Nat):Bool:=Ieee.double.order x y==some .gt
def Uf (x y:Nat):Bool:=Ieee.double.order x y==some .gt||Ieee.double.order x y==some .eq
def PY (n:Int):Nat:=fG (FloatKind.f64.nearest n)
def s4 (op:BinOp) (k:IntKind) (x y:Int) (K:ag→Prop):Prop:=
 match op with
 | .add=>arith k (x+y) K
 | .sub=>arith k (x - y) K
 | .mul=>arith k (x*y) K
 | .quo=>y≠0∧arith k (x.tdiv y) K
 | .rem=>y≠0∧K (.d (.int k (x.tmod y)))
 | .and=>K (.d (.int k (ji k x y)))
 | .or=>K (.d (.int k (ya k x y)))
 | .xor=>K (.d (.int k (Sj k x y)))
 | .andNot=>K (.d (.int k (OU k x y)))
 | .shl=>0≤y∧arith k (x*2^(min y.toNat k.bits)) K
 | .shr=>0≤y∧K (.d (.int k (x.fdiv (2^(min y.toNat k.bits)))))
 | .eql=>K (.d (.bool (x==y)))
 | .neq=>K (.d (.bool (x !=y)))
 | .lss=>K (.d (.bool (decide (x<y))))
 | .leq=>K (.d (.bool (decide (x≤y))))
 | .gtr=>K (.d (.bool (decide (x>y))))
 | .geq=>K (.d (.bool (decide (x≥y))))
def s5 (op:BinOp) (x y:Nat) (K:ag→Prop):Prop:=
 match op with
 | .add=>K (.d (.flt (Sk x y)))
 | .sub=>K (.d (.flt (Sl x y)))
 | .mul=>K (.d (.flt (Sm x y)))
 | .quo=>K (.d (.flt (fdiv x y)))
 | .eql=>K (.d (.bool (B5 x y)))
 | .neq=>K (.d (.bool (!B5 x y)))
 | .lss=>K (.d (.bool (flt x y)))
 | .leq=>K (.d (.bool (Ud x y)))
 | .gtr=>K (.d (.bool (Ue x y)))
 | .geq=>K (.d (.bool (Uf x y)))
 |_=>False
def cX:D→ag
 | .agg cs=> .agg (cs.map .d)
 |x=> .d x
mutual
def ag.has (i:Nat):ag→Bool
 | .agg cs=>ag.cC i cs
 | .box j _=>j==i
 | .own j _ _=>j==i
 | .dr j _ _=>j==i
 | .c0 _ a b=>ag.cC i a||ag.cC i b
 |_=>false
def ag.cC (i:Nat):List ag→Bool
 |[]=>false
 |x::xs=>x.has i||ag.cC i xs
end
mutual
def ag.pure:ag→Bool
 | .d _=>true
 | .agg cs=>ag.fO cs
 | .c0 _ a b=>ag.fO a && ag.fO b
 |_=>false
def ag.fO:List ag→Bool
 |[]=>true
 |x::xs=>x.pure && ag.fO xs
end
def ag.kill (i:Nat) (v:ag):ag:=match v with
 | .d x=> .d x
 |v=>if v.has i then .any else v
def BC.kill (i:Nat):BC→BC
 | .cells cs=> .cells (cs.map (ag.kill i))
 |c=>c
def b1.kill (i:Nat) (b:b1):b1:=⟨b.cd,b.ext,b.c.kill i⟩
mutual
def D.flat:D→Bool
 | .bool _| .int _ _| .flt _=>true
 | .agg cs=>D.pG cs
 | .ep cs=>D.pG cs
 |_=>false
def D.pG:List D→Bool
 |[]=>true
 |d::ds=>d.flat && D.pG ds
end
def Ug (f:Nat→ag) (d:Nat) (v:ag):Nat→ag:=fun t=>if t=d then v else f t
def kM (f:Nat→Option b1) (i:Nat) (b:b1):Nat→Option b1:=fun t=>if t=i then some b else f t
namespace St
def aT (σ:St):bk→ag
 | .t n=>σ.af n
 | .c d=>cX d
def put (σ:St) (d:Option Nat) (v:ag):St:=match d with
 |some d=>⟨Ug σ.af d v,σ.aw⟩
 |none=>σ
def dK (σ:St) (i:Nat) (b:b1):St:=⟨σ.af,kM σ.aw i b⟩
def fresh (σ:St) (i:Nat) (b:b1):St:=
 ⟨fun t=>(σ.af t).kill i,kM (fun j=>(σ.aw j).map (b1.kill i)) i b⟩
def forget (σ:St) (i:Nat):St:=⟨fun t=>(σ.af t).kill i,fun j=>(σ.aw j).map (b1.kill i)⟩
def oQ (σ:St) (i:Nat):St:=⟨σ.af,fun j=>if j=i then (σ.aw j).map (fun b=>⟨true,b.ext,b.c⟩)else σ.aw j⟩
end St
def BC.part (lo n:Nat):BC→Option D
 | .cells _=>none
 | .ints k xs=>if lo+n≤xs.length then some (.ints k ((xs.drop lo).take n))else none
 | .flts xs=>if lo+n≤xs.length then some (.flts ((xs.drop lo).take n))else none
 | .recs sz xs=>if lo+n≤xs.length then some (.recs sz ((xs.drop lo).take n))else none
def ag.xB:ag→Option D
 | .d x=>some x
 |_=>none
def lp:List ag→Option (List D)
 |[]=>some []
 |c::cs=>match c.xB,lp cs with
  |some d,some ds=>some (d::ds)
  |_,_=>none
mutual
def toD (σ:St):ag→Option D
 | .d x=>some x
 | .agg cs=>match toDs σ cs with
   |some ds=>some (.agg ds)
   |none=>none
 | .own i lo n=>match σ.aw i with
   |some b=>b.c.part lo n
   |none=>none
 | .box i 0=>match σ.aw i with
   |some ⟨_,_,.cells cs⟩=>match lp cs with
    |some ds=>some (.ptr ds)
    |none=>none
   |_=>none
 | .c0 f a b=>match toDs σ a,toDs σ b with
   |some x,some y=>some (.fn f x y)
   |_,_=>none
 |_=>none
def toDs (σ:St):List ag→Option (List D)
 |[]=>some []
 |c::cs=>match toD σ c,toDs σ cs with
  |some d,some ds=>some (d::ds)
  |_,_=>none
end
mutual
def gA (σ:St):ag→St
 | .agg cs=>ih σ cs
 | .box i _=>σ.oQ i
 | .own i _ _=>σ.oQ i
 | .dr i _ _=>σ.oQ i
 | .c0 _ a b=>ih (ih σ a) b
 |_=>σ
def ih (σ:St):List ag→St
 |[]=>σ
 |c::cs=>ih (gA σ c) cs
end
mutual
def ic (σ:St):ag→Bool
 | .agg cs=>jL σ cs
 | .box i _=>match σ.aw i with|some b=> !b.ext|none=>false
 | .own i _ _=>match σ.aw i with|some b=> !b.ext|none=>false
 | .dr i _ _=>match σ.aw i with|some b=> !b.ext|none=>false
 | .c0 _ a b=>jL σ a && jL σ b
 |_=>true
def jL (σ:St):List ag→Bool
 |[]=>true
 |c::cs=>ic σ c && jL σ cs
end
def iA (σ:St) (n:Nat) (g:Bool) (v:ag) (K:ag→Prop):Prop:=
 match v with
 | .d (.ptr cs)=>if g then n≤cs.length∧K (.agg ((cs.take n).map .d))else
   match cs with
   |d::_=>K (.d d)
   |[]=>False
 | .box i off=>match σ.aw i with
   |some ⟨_,_,.cells cs⟩=>if g then off+n≤cs.length∧K (.agg ((cs.drop off).take n))else
    match cs[off]? with
    |some v=>K v
    |none=>False
   |_=>False
 | .dr i j off=>match σ.aw i with
   |some ⟨_,_,.ints k xs⟩=>off=0∧g=false∧j<xs.length∧K (.d (.int k (xs.getD j 0)))
   |some ⟨_,_,.flts xs⟩=>off=0∧g=false∧j<xs.length∧K (.d (.flt (xs.getD j 0)))
   |some ⟨_,_,.recs _ xs⟩=>j<xs.length∧(if g then off+n≤(xs.getD j []).length∧K (.agg ((((xs.getD j []).drop off).take n).map .d))else
    match (xs.getD j [])[off]? with
    |some d=>K (.d d)
    |none=>False)
   |_=>False
 |_=>False
def ag.cells:ag→List ag
 | .agg cs=>cs
 |v=>[v]
def ag.dq:ag→Bool
 | .d (.agg _)| .d (.ep _)| .agg _| .c6 _| .c1| .any=>false
 |_=>true
def oB (zero:List ag):List (Nat×Nat×ag)→Option (List ag)
 |[]=>some zero
 |(off,size,v)::r=>
  if v.cells.length=size∧off+size≤zero.length∧v.cells.all ag.dq=true then oB (zero.take off++v.cells++zero.drop (off+size)) r else none
def ch (σ:St) (xs:List bk):List ag:=xs.map σ.aT
def lq (k:IntKind):List D→Option (List Int)
 |[]=>some []
 | .int dM n::r=>if dM=k then (lq k r).map (n:: ·)else none
 |_=>none
def lr:List D→Option (List Nat)
 |[]=>some []
 | .flt n::r=>(lr r).map (n:: ·)
 |_=>none
def ia (sz:Nat):List D→Option (List (List D))
 |[]=>some []
 | .agg cs::r=>if cs.length=sz then (ia sz r).map (cs:: ·)else none
 |d::r=>if sz=1 then (ia sz r).map ([d]:: ·)else none
def asSlice (ek:dL) (ds:List D):Option D:=
 match ek with
 | .ints k=>(lq k ds).map (.ints k)
 | .flts=>(lr ds).map .flts
 | .recs sz=>(ia sz ds).map (.recs sz)
def ve (v:ag) (K:ag→Prop):Prop:=
 match v with
 | .d (.ints _ xs)=>K (.d (.int .i64 xs.length))
 | .d (.flts xs)=>K (.d (.int .i64 xs.length))
 | .d (.recs _ xs)=>K (.d (.int .i64 xs.length))
 | .own _ _ n=>K (.d (.int .i64 n))
 |_=>False
def jM:Option b1→Option Nat
 |some ⟨_,_,.recs sz _⟩=>some sz
 |some ⟨_,_,.ints _ _⟩=>some 1
 |some ⟨_,_,.flts _⟩=>some 1
 |_=>none
def bound (aeq:Int) (v:Option ag) (K:Int→Prop):Prop:=
 match v with
 |none=>K aeq
 |some (.d (.int _ n))=>K n
 |_=>False
def ov (σ:St) (sz:Nat) (v:ag) (i:Int) (K:ag→Prop):Prop:=
 match v with
 | .d (.ints k xs)=>sz=1∧0≤i∧i<xs.length∧K (.d (.ptr [.int k (xs.getD i.toNat 0)]))
 | .d (.flts xs)=>sz=1∧0≤i∧i<xs.length∧K (.d (.ptr [.flt (xs.getD i.toNat 0)]))
 | .d (.recs z xs)=>sz=z∧0≤i∧i<xs.length∧K (.d (.ptr (xs.getD i.toNat [])))
 | .own b lo n=>jM (σ.aw b)=some sz∧0≤i∧i<n∧K (.dr b (lo+i.toNat) 0)
 |_=>False
def lD (σ:St) (sz:Nat) (v:ag) (lo hi:Option ag) (K:ag→Prop):Prop:=
 match v with
 | .d (.ints k xs)=>bound 0 lo fun l=>bound xs.length hi fun h=>sz=1∧0≤l∧l≤h∧h≤xs.length∧K (.d (.ints k ((xs.take h.toNat).drop l.toNat)))
 | .d (.flts xs)=>bound 0 lo fun l=>bound xs.length hi fun h=>sz=1∧0≤l∧l≤h∧h≤xs.length∧K (.d (.flts ((xs.take h.toNat).drop l.toNat)))
 | .d (.recs z xs)=>bound 0 lo fun l=>bound xs.length hi fun h=>sz=z∧0≤l∧l≤h∧h≤xs.length∧K (.d (.recs z ((xs.take h.toNat).drop l.toNat)))
 | .own b o n=>bound 0 lo fun l=>bound n hi fun h=>jM (σ.aw b)=some sz∧0≤l∧l≤h∧h≤n∧K (.own b (o+l.toNat) (h.toNat - l.toNat))
 |_=>False
mutual
def ag.ids:ag→List Nat
 | .agg cs=>ag.gE cs
 | .box i _=>[i]
 | .own i _ _=>[i]
 | .dr i _ _=>[i]
 | .c0 _ a b=>ag.gE a++ag.gE b
 |_=>[]
def ag.gE:List ag→List Nat
 |[]=>[]
 |c::cs=>c.ids++ag.gE cs
end
mutual
def ag.c7 (g:Nat→Nat):ag→ag
 | .agg cs=> .agg (ag.e5 g cs)
 | .box i o=> .box (g i) o
 | .own i lo n=> .own (g i) lo n
 | .dr i j o=> .dr (g i) j o
 | .c0 f a b=> .c0 f (ag.e5 g a) (ag.e5 g b)
 |v=>v
def ag.e5 (g:Nat→Nat):List ag→List ag
 |[]=>[]
 |c::cs=>c.c7 g::ag.e5 g cs
end
def bF:Nat:=1000000
def placeOf:List Nat→Nat→Nat
 |[],_=>0
 |j::r,i=>if j=i then 0 else placeOf r i+1
def distinct:List Nat→List Nat
 |[]=>[]
 |i::r=>i::(distinct r).filter (· !=i)
def BC.pure:BC→Bool
 | .cells cs=>ag.fO cs
 |_=>true
mutual
def ag.tidy (p:Nat→Bool):ag→Bool
 | .d _=>true
 | .agg cs=>ag.fT p cs
 | .box i _=>p i
 | .c0 _ a b=>ag.fT p a && ag.fT p b
 |_=>false
def ag.fT (p:Nat→Bool):List ag→Bool
 |[]=>true
 |c::cs=>c.tidy p && ag.fT p cs
end
def BC.tidy (p:Nat→Bool):BC→Bool
 | .cells cs=>ag.fT p cs
 |_=>true
def BC.c7 (g:Nat→Nat):BC→BC
 | .cells cs=> .cells (ag.e5 g cs)
 |c=>c
def reach (σ:St) (is:List Nat):List Nat:=
 distinct (is++is.flatMap fun i=>match σ.aw i with
  |some ⟨_,_,.cells cs⟩=>ag.gE cs
  |_=>[])
def contents (σ:St) (p:Nat→Bool):List Nat→Option (List BC)
 |[]=>some []
 |i::r=>match σ.aw i,contents σ p r with
  |some ⟨false,_,c⟩,some cs=>if c.tidy p=true then some (c::cs)else none
  |_,_=>none
def oE (C:fL) (σ:St) (K:ag→Prop) (vs:List ag):Prop:=
 match contents σ (fun _=>false) (distinct (ag.gE vs))with
 |some cs=>C.pre (ag.e5 (fun i=>bF+placeOf (distinct (ag.gE vs)) i) vs) cs∧C.out (ag.e5 (fun i=>bF+placeOf (distinct (ag.gE vs)) i) vs) cs=cs∧K (cX (C.res (ag.e5 (fun i=>bF+placeOf (distinct (ag.gE vs)) i) vs) cs))
 |none=>False
def bj (Γ:Env) (σ:St) (K:ag→Prop):bo→Prop
 | .bx x=>K (σ.aT x)
 | .pick c a b=>match σ.aT c with
   | .d (.bool t)=>(t=true→K (σ.aT a))∧(t=false→K (σ.aT b))
   |_=>False
 | .load n g x=>iA σ n g (σ.aT x) K
 | .pF x=>match σ.aT x with
   | .box i o=>K (.box i o)
   | .dr i j o=>K (.dr i j o)
   | .d (.ptr cs)=>K (.d (.ptr cs))
   | .d (.fn f a b)=>K (.d (.fn f a b))
   | .c0 f a b=>K (.c0 f a b)
   |_=>False
 | .bin op x y=>match σ.aT x,σ.aT y with
   | .d (.int k a),.d (.int dM b)=>(k=dM∨op= .shl∨op= .shr)∧s4 op k a b K
   | .d (.flt a),.d (.flt b)=>s5 op a b K
   |_,_=>False
 | .kL ne x y=>match σ.aT x,σ.aT y with
   | .d (.bool a),.d (.bool b)=>K (.d (.bool (if ne then a !=b else a==b)))
   |_,_=>False
 | .oN ne x y=>match (σ.aT x).pair,(σ.aT y).pair with
   |some p,some q=>K (.d (.bool (if ne then !(p.1==q.1 && p.2==q.2)else (p.1==q.1 && p.2==q.2))))
   |_,_=>False
 | .un op x=>match op,σ.aT x with
   | .not,.d (.bool b)=>K (.d (.bool (!b)))
   | .neg,.d (.int k n)=>arith k (0 - n) K
   | .neg,.d (.flt b)=>K (.d (.flt (Bm b)))
   |_,_=>False
 | .conv k x=>match σ.aT x with
   | .d (.int _ n)=>arith k n K
   |_=>False
 | .oA x=>match σ.aT x with
   | .d (.int _ n)=>K (.d (.flt (PY n)))
   | .d (.flt b)=>K (.d (.flt b))
   |_=>False
 | .dA off x=>match σ.aT x with
   | .box i o=>K (.box i (o+off))
   | .dr i j o=>K (.dr i j (o+off))
   | .d (.ptr cs)=>K (.d (.ptr (cs.drop off)))
   |_=>False
 | .rr off n g x=>match σ.aT x with
   | .agg cs=>if g then off+n≤cs.length∧K (.agg ((cs.drop off).take n))else
     match cs[off]? with
     |some v=>K v
     |none=>False
   |_=>False
 | .q0 sz x i=>match σ.aT i with
   | .d (.int _ n)=>ov σ sz (σ.aT x) n K
   |_=>False
 | .q1 len sz x i=>match σ.aT x,σ.aT i with
   | .box b o,.d (.int _ n)=>0≤n∧n<len∧K (.box b (o+n.toNat*sz))
   | .d (.ptr cs),.d (.int _ n)=>0≤n∧n<len∧K (.d (.ptr (cs.drop (n.toNat*sz))))
   |_,_=>False
 | .idx len n g x i=>match σ.aT x,σ.aT i with
   | .agg cs,.d (.int _ j)=>0≤j∧j<len∧(if g then j.toNat*n+n≤cs.length∧K (.agg ((cs.drop (j.toNat*n)).take n))else
     match cs[j.toNat*n]? with
     |some v=>K v
     |none=>False)
   |_,_=>False
 | .lC i x=>match σ.aT x with
   | .d (.ep ds)=>match ds[i]? with
     |some d=>K (cX d)
     |none=>False
   |_=>False
 | .len x=>ve (σ.aT x) K
 | .jW x y=>match σ.aT x,σ.aT y with
   | .d (.int k a),.d (.int _ b)=>K (.d (.int k (if b>a then b else a)))
   |_,_=>False
 | .sc x y=>match σ.aT x,σ.aT y with
   | .d (.int k a),.d (.int _ b)=>K (.d (.int k (if b<a then b else a)))
   |_,_=>False
 | .ru sz x lo hi=>lD σ sz (σ.aT x) (lo.map σ.aT) (hi.map σ.aT) K
 | .build zero parts=>match oB (zero.map .d) (parts.map fun p=>(p.1,p.2.1,σ.aT p.2.2))with
   |some cs=>K (.agg cs)
   |none=>False
 | .hM ek parts=>ag.fO (ch σ parts)=true∧match toDs σ (ch σ parts)with
   |some ds=>match asSlice ek ds with
    |some d=>K (.d d)
    |none=>False
   |none=>False
 | .q6 f fst cap=>if (ag.fO (ch σ fst) && ag.fO (ch σ cap))=true then
  match toDs σ (ch σ fst),toDs σ (ch σ cap)with
  |some a,some b=>K (.d (.fn f a b))
  |_,_=>False
   else K (.c0 f (ch σ fst) (ch σ cap))
 | .call f args=>match toDs σ (ch σ args),Γ.fn f with
   |some ds,some C=>C.pre ds∧((C.res ds).flat=true∨ag.fO (ch σ args)=true)∧K (cX (C.res ds))
   |_,_=>False
 | .gj x args=>match σ.aT x with
   | .d (.fn f fst cap)=>match toDs σ (ch σ args),Γ.fn f with
     |some ds,some C=>C.pre (fst++ds++cap)∧((C.res (fst++ds++cap)).flat=true∨ag.fO (ch σ args)=true)∧K (cX (C.res (fst++ds++cap)))
     |_,_=>False
   | .c0 f fst cap=>match Γ.mt f with
     |some C=>oE C σ K (fst++ch σ args++cap)
     |none=>False
   |_=>False
 |_=>False
def ni (ek:dL) (zero:List D) (n:Nat):Option BC:=
 match ek,zero with
 | .ints k,[.int dM 0]=>if dM=k then some (.ints k (List.replicate n 0))else none
 | .flts,[.flt 0]=>some (.flts (List.replicate n 0))
 | .recs sz,z=>if z.length=sz then some (.recs sz (List.replicate n z))else none
 |_,_=>none
def lj:dL→BC
 | .ints k=> .ints k []
 | .flts=> .flts []
 | .recs sz=> .recs sz []
def lu (c:BC) (off:Nat) (vs:List ag):Option BC:=
 match c with
 | .cells cs=>if off+vs.length≤cs.length then some (.cells (cs.take off++vs++cs.drop (off+vs.length)))else none
 |_=>none
def nj (c:BC) (j off:Nat) (vs:List ag):Option BC:=
 match c,vs with
 | .ints k xs,[.d (.int dM n)]=>if dM=k∧off=0∧j<xs.length then some (.ints k (xs.set j n))else none
 | .flts xs,[.d (.flt n)]=>if off=0∧j<xs.length then some (.flts (xs.set j n))else none
 | .recs sz xs,vs=>match lp vs with
   |some ds=>if j<xs.length∧off+ds.length≤sz then some (.recs sz (xs.set j ((xs.getD j []).take off++ds++(xs.getD j []).drop (off+ds.length))))else none
   |none=>none
 |_,_=>none
def sD (ax:List (List D)):Bool:=ax.all fun r=>r.all fun d=>(ag.d d).dq
def s6 (c:BC) (d:D):Option BC:=
 match c,d with
 | .ints k xs,.ints dM ax=>if dM=k then some (.ints k (xs++ax))else none
 | .flts xs,.flts ax=>some (.flts (xs++ax))
 | .recs sz xs,.recs tu ax=>if tu=sz∧sD ax=true then some (.recs sz (xs++ax))else none
 |_,_=>none
def over {α:Type} (lo n:Nat) (xs ax:List α):List α:=xs.take lo++ax.take n++xs.drop (lo+(ax.take n).length)
def sU (c:BC) (lo n:Nat) (d:D):Option (BC×Nat):=
 match c,d with
 | .ints k xs,.ints dM ax=>if dM=k∧lo+n≤xs.length then some (.ints k (over lo n xs ax),min ax.length n)else none
 | .flts xs,.flts ax=>if lo+n≤xs.length then some (.flts (over lo n xs ax),min ax.length n)else none
 | .recs sz xs,.recs tu ax=>if tu=sz∧lo+n≤xs.length∧sD ax=true then some (.recs sz (over lo n xs ax),min ax.length n)else none
 |_,_=>none
def BC.count:BC→Nat
 | .cells cs=>cs.length
 | .ints _ xs=>xs.length
 | .flts xs=>xs.length
 | .recs _ xs=>xs.length
def bL:Nat:=4294967296
def gg (σ:St):List Nat→List BC→St
 |i::r,c::cs=>match σ.aw i with
  |some b=>gg (σ.dK i ⟨b.cd,b.ext,c⟩) r cs
  |none=>gg σ r cs
 |_,_=>σ
def pH (n i:Nat):Bool:=decide (bF≤i) && decide (i<bF+n)
def ow (C:fL) (dst:Option Nat) (σ:St) (K:St→Prop) (vs:List ag) (is:List Nat):Prop:=
 match contents σ (fun i=>is.contains i) is with
 |some B6=>let bG:=ag.e5 (fun i=>bF+placeOf is i) vs
  let cs:=B6.map (BC.c7 fun i=>bF+placeOf is i)
  C.pre bG cs∧(C.out bG cs).length=is.length∧(C.out bG cs).all (BC.tidy (pH is.length))=true∧
    K ((gg σ is ((C.out bG cs).map (BC.c7 fun i=>is.getD (i - bF) 0))).put dst (cX (C.res bG cs)))
 |none=>False
def lx (C:fL) (dst:Option Nat) (σ:St) (K:St→Prop) (vs:List ag):Prop:=ow C dst σ K vs (reach σ (reach σ (distinct (ag.gE vs))))
def D.emp:D→Bool
 | .ints _ []| .flts []| .recs _ []=>true
 |_=>false
def D.xC:D→Bool
 | .ints _ _| .flts _=>true
 |_=>false
def hL:D→Option (BC×Nat)
 | .ints k xs=>some (.ints k xs,xs.length)
 | .flts xs=>some (.flts xs,xs.length)
 |_=>none
def nu (C:bq) (dst:Option Nat) (σ:St) (K:St→Prop) (vs:List ag):Prop:=
 match toDs σ vs with
 |some ds=>C.pre ds∧(if C.own=true then match dst,hL (C.res ds)with
  |some i,some (c,n)=>K ((σ.fresh i ⟨false,false,c⟩).put (some i) (.own i 0 n))
  |_,_=>False
  else if ((C.res ds).flat||ag.fO vs)=true then K (σ.put dst (cX (C.res ds)))
  else jL σ vs=true∧K ((ih σ vs).put dst (cX (C.res ds))))
 |none=>False
def ly (Γ:Env) (dst:Option Nat) (σ:St) (K:St→Prop) (f:Nat) (vs:List ag):Prop:=
 match Γ.mt f,Γ.fn f with
 |some C,_=>lx C dst σ K vs
 |none,some C=>nu C dst σ K vs
 |none,none=>False
def cQ (Γ:Env) (dst:Option Nat) (σ:St) (K:St→Prop) (o:bo):Prop:=
 match o with
 | .alloc zero=>match dst with
   |some i=>K ((σ.fresh i ⟨false,false,.cells (zero.map .d)⟩).put dst (.box i 0))
   |none=>False
 | .box x=>match dst with
   |some i=>(σ.aT x).has i=false∧(σ.aT x).cells.all ag.dq=true∧K ((σ.fresh i ⟨false,false,.cells (σ.aT x).cells⟩).put dst (.box i 0))
   |none=>False
 | .kT ek zero n=>match dst,σ.aT n with
   |some i,.d (.int _ n)=>match ni ek zero n.toNat with
    |some c=>0≤n∧n≤bL∧K ((σ.fresh i ⟨false,false,c⟩).put dst (.own i 0 n.toNat))
    |none=>False
   |_,_=>False
 | .nil ek=>match dst with
   |some i=>K ((σ.fresh i ⟨false,false,lj ek⟩).put dst (.own i 0 0))
   |none=>False
 | .store n a x=>match σ.aT a with
   | .box i off=>match σ.aw i with
     |some ⟨false,e,c⟩=>(σ.aT x).cells.length=n∧(σ.aT x).cells.all ag.dq=true∧match lu c off (σ.aT x).cells with
      |some c=>K ((σ.dK i ⟨false,e,c⟩).put dst .c1)
      |none=>False
     |_=>False
   | .dr i j off=>match σ.aw i with
     |some ⟨false,e,c⟩=>(σ.aT x).cells.length=n∧(σ.aT x).cells.all ag.dq=true∧match nj c j off (σ.aT x).cells with
      |some c=>K ((σ.dK i ⟨false,e,c⟩).put dst .c1)
      |none=>False
     |_=>False
   |_=>False
 | .app ek x y=>match σ.aT x with
   | .own i lo n=>match σ.aw i,toD σ (σ.aT y)with
     |some ⟨false,false,c⟩,some d=>match s6 c d with
      |some c'=>jM (σ.aw i)=some ek.sz∧lo=0∧n=c.count∧c'.count≤bL∧K (((σ.forget i).dK i ⟨false,false,c'⟩).put dst (.own i 0 c'.count))
      |none=>False
     |_,_=>False
   |_=>False
 | .copy ek x y=>match σ.aT x with
   | .own i lo n=>match σ.aw i,toD σ (σ.aT y)with
     |some ⟨false,e,c⟩,some d=>match sU c lo n d with
      |some (c',m)=>jM (σ.aw i)=some ek.sz∧K ((σ.dK i ⟨false,e,c'⟩).put dst (.d (.int .i64 m)))
      |none=>False
     |_,_=>False
   |_=>False
 | .call f args=>ly Γ dst σ K f (ch σ args)
 | .gj x args=>match σ.aT x with
   | .d (.fn f fst cap)=>ly Γ dst σ K f (fst.map cX++ch σ args++cap.map cX)
   | .c0 f fst cap=>ly Γ dst σ K f (fst++ch σ args++cap)
   |_=>False
 | .q2 x=>match toD σ (σ.aT x)with
   |some d=>d.xC=true∧∀b:Bool,(b=true→d.emp=true)→K (σ.put dst (.d (.bool b)))
   |none=>False
 |o=>bj Γ σ (fun v=>K (σ.put dst v)) o
def guarded (σ:St) (g:Option (Nat×Bool)) (yes no:Prop):Prop:=
 match g with
 |none=>yes
 |some (t,w)=>match σ.af t with
  | .d (.bool b)=>(b=w→yes)∧(b=(!w)→no)
  | .c1=>no
  |_=>False
def bo.ops:bo→List bk
 | .q2 x| .bx x| .load _ _ x| .pF x| .un _ x| .conv _ x| .oA x| .dA _ x| .rr _ _ _ x| .lC _ x| .len x| .box x| .kT _ _ x=>[x]
 | .pick c a b=>[c,a,b]
 | .bin _ x y| .kL _ x y| .oN _ x y| .q0 _ x y| .q1 _ _ x y| .idx _ _ _ x y| .jW x y| .sc x y| .store _ x y| .app _ x y| .copy _ x y=>[x,y]
 | .ru _ x lo hi=>x::(lo.toList++hi.toList)
 | .build _ ps=>ps.map (·.2.2)
 | .hM _ ps=>ps
 | .q6 _ a b=>a++b
 | .call _ as=>as
 | .gj x as=>x::as
 | .alloc _| .nil _| .bad=>[]
def bo.makes:bo→Bool
 | .alloc _| .box _| .kT _ _ _| .nil _=>true
 |_=>false
def je (σ:St):List (bE×List Nat)→St
 |[]=>σ
 |o::r=>je (match o.1.op.makes,o.1.dst with
  |true,some i=>⟨fun t=>(σ.af t).kill i,fun j=>if j=i then none else (σ.aw j).map (b1.kill i)⟩
  |_,_=>σ) r
def sI (bU:List Nat) (vs:List ag):Bool:=bU.all fun i=> !ag.cC i vs
def made (σ:St) (o:bo) (K:ag→b1→Prop) (i:Nat):Prop:=
 match o with
 | .alloc zero=>K (.box i 0) ⟨false,false,.cells (zero.map .d)⟩
 | .box x=>(σ.aT x).cells.all ag.dq=true∧K (.box i 0) ⟨false,false,.cells (σ.aT x).cells⟩
 | .kT ek zero n=>match σ.aT n with
   | .d (.int _ n)=>match ni ek zero n.toNat with
     |some c=>0≤n∧n≤bL∧K (.own i 0 n.toNat) ⟨false,false,c⟩
     |none=>False
   |_=>False
 | .nil ek=>K (.own i 0 0) ⟨false,false,lj ek⟩
 |_=>False
def stored (σ:St) (n:Nat) (a x:bk) (K:Nat→b1→Prop):Prop:=
 match a,σ.aT a with
 | .t p,.box i off=>i=p∧match σ.aw i with
   |some ⟨false,e,c⟩=>(σ.aT x).cells.length=n∧(σ.aT x).cells.all ag.dq=true∧match lu c off (σ.aT x).cells with
    |some c=>K i ⟨false,e,c⟩
    |none=>False
   |_=>False
 |_,_=>False
def om (σ:St) (n:Nat) (a x:bk) (K:Nat→b1→Prop):Prop:=
 match σ.aT a with
 | .box i off=>match σ.aw i with
   |some ⟨false,e,c⟩=>(σ.aT x).cells.length=n∧(σ.aT x).cells.all ag.dq=true∧match lu c off (σ.aT x).cells with
    |some c=>K i ⟨false,e,c⟩
    |none=>False
   |_=>False
 | .dr i j off=>match σ.aw i with
   |some ⟨false,e,c⟩=>(σ.aT x).cells.length=n∧(σ.aT x).cells.all ag.dq=true∧match nj c j off (σ.aT x).cells with
    |some c=>K i ⟨false,e,c⟩
    |none=>False
   |_=>False
 |_=>False
def nf (bU:List Nat) (σ:St) (n:Nat) (a x:bk) (K:Nat→b1→Prop):Prop:=
 match bU with
 |[]=>om σ n a x K
 |_::_=>stored σ n a x K
def u3 (d:Option Nat) (K:Nat→Prop):Prop:=match d with
 |some i=>K i
 |none=>False
def lE (Γ:Env) (dst:Option Nat) (op:bo) (σ:St) (K:St→Prop):Prop:=
 if op.makes=true then u3 dst fun i=>σ.aw i=none∧made σ op (fun v b=>K ((σ.dK i b).put (some i) v)) i else bj Γ σ (fun v=>K (σ.put dst v)) op
def q3 (Γ:Env) (dst:Option Nat) (bU:List Nat) (σ:St) (K:St→Prop) (f:Nat) (as:List bk):Prop:=
 match bU,Γ.mt f with
 |[],some C=>lx C dst σ K (ch σ as)
 |_,_=>lE Γ dst (.call f as) σ K
def mF (Γ:Env) (o:bE) (bU:List Nat) (σ:St) (K:St→Prop):Prop:=
 sI bU (ch σ o.op.ops)=true∧
 match o.op with
 | .store n a x=>o.dst=none∧nf bU σ n a x fun i b=>K (σ.dK i b)
 | .call f as=>q3 Γ o.dst bU σ K f as
 |op=>lE Γ o.dst op σ K
def cG (Γ:Env) (K:St→Prop):List (bE×List Nat)→St→Prop
 |[],σ=>K σ
 |o::r,σ=>guarded σ o.1.guard (mF Γ o.1 o.2 σ (cG Γ K r)) (cG Γ K r (σ.put o.1.dst .c1))
def fA (Γ:Env) (K:St→Prop):List bE→St→Prop
 |[],σ=>K σ
 |o::r,σ=>guarded σ o.guard (cQ Γ o.dst σ (fA Γ K r) o.op) (fA Γ K r (σ.put o.dst .c1))
inductive eg where
 |normal
 |exit (id:Nat)
 |ret
def sQ (body:(eg→St→Prop)→St→Prop) (Q:eg→St→Prop) (σ:St):Prop:=
 ∃(I:St→Prop) (dN:St→Nat),I σ∧∀s,I s→body (fun e df=>match e with| .normal=>I df∧dN df<dN s|e=>Q e df) s
def bZ (Γ:Env):au→(eg→St→Prop)→St→Prop
 | .skip,Q,σ=>Q .normal σ
 | .dc ops,Q,σ=>fA Γ (Q .normal) ops σ
 | .jh pre oO,Q,σ=>cG Γ (fA Γ (Q .normal) oO) pre (je σ pre)
 | .seq a b,Q,σ=>bZ Γ a (fun e s=>match e with| .normal=>bZ Γ b Q s|e=>Q e s) σ
 | .cond c a b,Q,σ=>match σ.aT c with
   | .d (.bool t)=>(t=true→bZ Γ a Q σ)∧(t=false→bZ Γ b Q σ)
   |_=>False
 | .block id a,Q,σ=>bZ Γ a (fun e s=>match e with| .exit j=>if j=id then Q .normal s else Q (.exit j) s|e=>Q e s) σ
 | .loop a,Q,σ=>sQ (bZ Γ a) Q σ
 | .exit id,Q,σ=>Q (.exit id) σ
 | .ret,Q,σ=>Q .ret σ
def vf (σ:St):bl→Option ag
 | .tmp t=>some (σ.af t)
 | .cell t n g=>match σ.af t with
   | .box i off=>match σ.aw i with
     |some ⟨_,_,.cells cs⟩=>if g then (if off+n≤cs.length then some (.agg ((cs.drop off).take n))else none)else cs[off]?
     |_=>none
   |_=>none
def mr (σ:St):List bl→Option (List ag)
 |[]=>some []
 |r::rs=>match vf σ r,mr σ rs with
  |some v,some vs=>some (v::vs)
  |_,_=>none
def q7:List D→D
 |[d]=>d
 |ds=> .ep ds
def iD (rs:List bl) (σ:St) (K:D→Prop):Prop:=
 match mr σ rs with
 |some vs=>jL σ vs=true∧match toDs σ vs with
  |some ds=>K (q7 ds)
  |none=>False
 |none=>False
def mG (args:List D):St:=⟨fun t=>match args[t]? with|some d=>cX d|none=> .c1,fun _=>none⟩
def bH (Γ:Env) (l:au) (rs:List bl) (args:List D) (K:D→Prop):Prop:=
 bZ Γ l (fun e σ=>match e with| .exit _=>False|_=>iD rs σ K) (mG args)
def xI (rs:List bl) (σ:St) (K:D→Prop):Prop:=
 match rs with
 |[.tmp t]=>match σ.af t with
  | .own i lo n=>match σ.aw i with
    |some ⟨false,false,.ints k xs⟩=>lo=0∧xs.length=n∧K (.ints k xs)
    |some ⟨false,false,.flts xs⟩=>lo=0∧xs.length=n∧K (.flts xs)
    |_=>False
  |_=>False
 |_=>False
def xJ (Γ:Env) (l:au) (rs:List bl) (args:List D) (K:D→Prop):Prop:=
 bZ Γ l (fun e σ=>match e with| .exit _=>False|_=>xI rs σ K) (mG args)
def oF (as:List ag) (cs:List BC):St:=
 ⟨fun t=>match as[t]? with|some v=>v|none=> .c1,fun i=>if bF≤i then (cs[i - bF]?).map (fun c=>⟨false,true,c⟩)else none⟩
def nk (σ:St) (m k:Nat):Nat→Option (List BC)
 |0=>some []
 |n+1=>match σ.aw (bF+k),nk σ m (k+1) n with
  |some ⟨_,true,c⟩,some r=>if c.tidy (pH m)=true then some (c::r)else none
  |_,_=>none
def nE (Γ:Env) (l:au) (rs:List bl) (as:List ag) (cs:List BC) (K:D→List BC→Prop):Prop:=
 bZ Γ l (fun e σ=>match e with
  | .exit _=>False
  |_=>iD rs σ fun d=>match nk σ cs.length 0 cs.length with
   |some cs'=>K d cs'
   |none=>False) (oF as cs)
def lF (P:Program) (t:TypeId):Option (Nat×Bool):=
 match P.underlying t,P.info? t with
 |some (.struct _),some i=>some (i.size,true)
 |some (.array _ _),some i=>some (i.size,true)
 |some _,some i=>if i.size=1 then some (1,false)else none
 |_,_=>none
def gk (P:Program) (t:TypeId):Option Nat:=(P.info? t).map (·.size)
def mm (P:Program) (e:TypeId):Option dL:=
 match P.underlying e,gk P e with
 |some (.int k),some 1=>some (.ints k)
 |some (.float .f64),some 1=>some .flts
 |some (.int _),_=>none
 |some (.float _),_=>none
 |some _,some (n+1)=>some (.recs (n+1))
 |_,_=>none
def lJ (P:Program) (t:TypeId):Option dL:=
 match P.underlying t with
 |some (.slice e)=>mm P e
 |_=>none
def dL.empty:dL→D
 | .ints k=> .ints k []
 | .flts=> .flts []
 | .recs sz=> .recs sz []
def xn (P:Program) (t:TypeId):Value→Option D
 | .bool b=>some (.bool b)
 | .int k n=>some (.int k n)
 | .float .f64 b=>if (Ieee.double.read b).isNaN then none else some (.flt b)
 | .slice none 0 0=>(lJ P t).map dL.empty
 | .nilFunc=>some .nilfn
 | .pointer none=>some .nilp
 |_=>none
def AY (P:Program):Nat→TypeId→Option (List TypeId)
 |0,_=>none
 |n+1,t=>match P.underlying t with
  |some (.struct fs)=>fs.toList.foldr (fun f r=>match AY P n f.type,r with|some a,some b=>some (a++b)|_,_=>none) (some [])
  |some (.array len e)=>match AY P n e with
   |some a=>some ((List.replicate len a).flatten)
   |none=>none
  |some _=>some [t]
  |none=>none
def py (P:Program):List TypeId→List Value→Option (List D)
 |[],[]=>some []
 |t::c2,v::vs=>match xn P t v,py P c2 vs with
  |some d,some ds=>some (d::ds)
  |_,_=>none
 |_,_=>none
def sR (P:Program) (t:TypeId):Option (List D):=
 match (P.info? t).bind (·.zero),AY P 10 t with
 |some z,some c2=>py P c2 z.cells.toList
 |_,_=>none
def kG (P:Program) (t:TypeId):Operand→Option bk
 | .tmp n=>some (.t n)
 | .func f=>some (.c (.fn f [] []))
 | .const (.agg cs)=>match AY P 10 t with
   |some c2=>(py P c2 cs.toList).map (fun ds=> .c (.agg ds))
   |none=>none
 | .const v=>(xn P t v).map .c
 | .global _=>none
def kD (P:Program):List TypeId→List Operand→Option (List bk)
 |_,[]=>some []
 |t::c2,x::xs=>match kG P t x,kD P c2 xs with
  |some v,some vs=>some (v::vs)
  |_,_=>none
 |[],_=>none
def dz (P:Program) (x:Operand):Option bk:=
 match x with
 | .const (.slice ..)| .const (.agg _)=>none
 |x=>kG P 0 x
def qK (P:Program) (pl:List (Nat×Nat×TypeId)):List (Nat×Operand)→Option (List (Nat×Nat×bk))
 |[]=>some []
 |(i,x)::r=>match pl[i]?,qK P pl r with
  |some (off,size,t),some ps=>match kG P t x with
   |some v=>some ((off,size,v)::ps)
   |none=>none
  |_,_=>none
def xa (P:Program) (fs:List Field):Option (List (Nat×Nat×TypeId)):=
 match fs with
 |[]=>some []
 |f::r=>match gk P f.type,xa P r with
  |some n,some ps=>some ((f.offset,n,f.type)::ps)
  |_,_=>none
def Ax:Operand→Operand→Bool
 | .tmp a,.tmp b=>a==b
 | .const (.int j a),.const (.int k b)=>j==k && a==b
 |_,_=>false
def uO (n:Nat):List (Nat×Operand)→Nat→Bool
 |[],i=>i==n
 |(j,_)::r,i=>j==i && uO n r (i+1)
def wW (P:Program) (t:TypeId):Bool:=match P.underlying t with|some (.slice _)=>true|_=>false
def ng (P:Program) (ty:TypeId) (x:Operand):Option bo:=
 match x with
 | .const (.slice none 0 0)=>(lJ P ty).map .nil
 |x=>(kG P ty x).map .bx
def nv (P:Program) (ty:TypeId) (c a b:Operand):Option bo:=
 match dz P c,kG P ty a,kG P ty b with
 |some c,some a,some b=>some (.pick c a b)
 |_,_,_=>none
def nw (P:Program) (t:TypeId) (x:Operand):Option bo:=
 match dz P x,lF P t with
 |some x,some (n,g)=>some (.load n g x)
 |_,_=>none
def ox (P:Program) (t:TypeId) (a x:Operand):Option bo:=
 match dz P a,kG P t x,gk P t with
 |some a,some x,some n=>some (.store n a x)
 |_,_,_=>none
def q8 (P:Program) (t:TypeId):Bool:=match P.underlying t with
 |some (.int .i64)=>true
 |_=>false
def u4 (P:Program) (t:TypeId):Bool:=match P.underlying t with
 |some (.struct fs)=>match fs.toList with
  |[f,g]=>f.name != "_" && g.name != "_" && f.offset==0 && g.offset==1 && q8 P f.type && q8 P g.type && !P.stoodInHeld t && !P.eqGuardType P.depth t
  |_=>false
 |_=>false
def nF (P:Program) (op:BinOp) (t:TypeId) (x y:Operand):Option bo:=
 match dz P x,dz P y with
 |some x,some y=>match P.underlying t,op with
  |some .bool,.eql=>some (.kL false x y)
  |some .bool,.neq=>some (.kL true x y)
  |some (.int _),op=>some (.bin op x y)
  |some (.float .f64),op=>some (.bin op x y)
  |_,.eql=>if u4 P t=true then some (.oN false x y)else none
  |_,.neq=>if u4 P t=true then some (.oN true x y)else none
  |_,_=>none
 |some x,none=>match op,y,P.underlying t with
  | .eql,.const (.slice none 0 0),some (.slice _)=>some (.q2 x)
  |_,_,_=>none
 |_,_=>none
def nx (P:Program) (s t:TypeId) (x:Operand):Option bo:=
 match dz P x,P.underlying s,P.underlying t with
 |some x,some (.int _),some (.int k)=>some (.conv k x)
 |some x,some (.int _),some (.float .f64)=>some (.oA x)
 |some x,some (.float .f64),some (.float .f64)=>some (.oA x)
 |_,_,_=>none
def nm (P:Program) (s:TypeId) (x:Operand) (f:Nat):Option bo:=
 match P.underlying s,dz P x with
 |some (.struct fs),some x=>match fs[f]? with
  |some f=>match gk P f.type with
   |some (_+1)=>some (.dA f.offset x)
   |_=>none
  |none=>none
 |_,_=>none
def nn (P:Program) (s:TypeId) (x:Operand) (f:Nat):Option bo:=
 match P.underlying s,dz P x with
 |some (.struct fs),some x=>match fs[f]? with
  |some f=>match lF P f.type with
   |some (n,g)=>some (.rr f.offset n g x)
   |_=>none
  |none=>none
 |_,_=>none
def np (P:Program) (t:TypeId) (x i:Operand):Option bo:=
 match P.underlying t,dz P x,dz P i with
 |some (.slice e),some x,some i=>(gk P e).map fun n=> .q0 n x i
 |some (.array len e),some x,some i=>(gk P e).map fun n=> .q1 len n x i
 |_,_,_=>none
def nq (P:Program) (t:TypeId) (x i:Operand):Option bo:=
 match P.underlying t,dz P x,dz P i with
 |some (.array len e),some x,some i=>match lF P e with
  |some (n,g)=>some (.idx len n g x i)
  |none=>none
 |_,_,_=>none
def nz (P:Program) (f:Nat) (fst cap:Array Operand):Option bo:=
 match kD P (fst.toList.map fun _=>0) fst.toList,kD P (cap.toList.map fun _=>0) cap.toList with
 |some a,some b=>some (.q6 f a b)
 |_,_=>none
def sJ (P:Program) (e:TypeId):Bool:=match P.info? e with
 |some i=>decide (i.bytes≤4096)
 |none=>false
def oC (P:Program) (t:TypeId) (l c:Operand):Option bo:=
 match P.underlying t,dz P l with
 |some (.slice e),some n=>match mm P e,sR P e with
  |some ek,some z=>if Ax l c && sJ P e then some (.kT ek z n)else none
  |_,_=>none
 |_,_=>none
def E0 (P:Program):Option Operand→Option (Option bk)
 |none=>some none
 |some x=>(dz P x).map some
def nr (P:Program) (t:TypeId) (x:Operand) (lo hi jW:Option Operand):Option bo:=
 match P.underlying t,dz P x,jW with
 |some (.slice e),some x,none=>match gk P e,E0 P lo,E0 P hi with
  |some n,some lo,some hi=>some (.ru n x lo hi)
  |_,_,_=>none
 |_,_,_=>none
def ns (P:Program) (t:TypeId) (parts:Array (Nat×Operand)):Option bo:=
 match P.underlying t,sR P t with
 |some (.struct fs),some z=>match xa P fs.toList with
  |some pl=>(qK P pl parts.toList).map (.build z)
  |none=>none
 |some (.array len e),some z=>match gk P e with
  |some n=>(qK P ((List.range len).map fun i=>(i*n,n,e)) parts.toList).map (.build z)
  |none=>none
 |_,_=>none
def nG (P:Program) (t:TypeId) (len:Nat) (parts:Array (Nat×Operand)):Option bo:=
 match P.underlying t with
 |some (.slice e)=>match mm P e with
  |some ek=>if ((P.info? e).bind (·.zero)).isSome then
   if len=0 then (if parts.toList.isEmpty then some (.nil ek)else none)
   else if uO len parts.toList 0 && decide (len*ek.sz≤16777216)then (kD P (parts.toList.map fun _=>e) (parts.toList.map (·.2))).map (.hM ek)else none
   else none
  |none=>none
 |_=>none
def xD (P:Program) (t:TypeId):Bool:=match P.underlying t with
 |some (.slice e)=>sJ P e && (match P.info? e with|some i=>(match i.zero with|some z=>z.cells.size==i.size|none=>false)|none=>false)
 |_=>false
def nd (P:Program) (b:Builtin) (args:List Operand) (c2:List TypeId):Option bo:=
 match b,args,c2 with
 | .len,[x],[t]=>if wW P t then (dz P x).map .len else none
 | .max,[x,y],_=>match dz P x,dz P y with
   |some x,some y=>some (.jW x y)
   |_,_=>none
 | .min,[x,y],_=>match dz P x,dz P y with
   |some x,some y=>some (.sc x y)
   |_,_=>none
 | .append,[x,y],[t,u]=>match lJ P t,dz P x,dz P y with
   |some ek,some x,some y=>if wW P u && xD P t then some (.app ek x y)else none
   |_,_,_=>none
 | .copy,[x,y],[t,u]=>match lJ P t,dz P x,dz P y with
   |some ek,some x,some y=>if wW P u then some (.copy ek x y)else none
   |_,_,_=>none
 |_,_,_=>none
def nA (P:Program) (c:Call):Option bo:=
 match c.callee with
 | .builtin b=>nd P b c.args.toList c.argTypes.toList
 | .value (.func f)=>(kD P c.argTypes.toList c.args.toList).map (.call f)
 | .value x=>match dz P x,kD P c.argTypes.toList c.args.toList with
   |some x,some as=>some (.gj x as)
   |_,_=>none
 | .invoke _ _=>none
def dm (P:Program) (ty:TypeId):Op→Option bo
 | .assign x=>ng P ty x
 | .move x=>(kG P ty x).map .bx
 | .pick c a b=>nv P ty c a b
 | .alloc e=>(sR P e).map .alloc
 | .box e x=>(kG P e x).map .box
 | .load t x=>nw P t x
 | .store t a x=>ox P t a x
 | .nilCheck x=>(dz P x).map .pF
 | .binOp op t x y _=>nF P op t x y
 | .unOp op _ x=>(dz P x).map (.un op)
 | .convert s t x=>nx P s t x
 | .fieldAddr s x f=>nm P s x f
 | .field s x f=>nn P s x f
 | .indexAddr t x i=>np P t x i
 | .index t x i=>nq P t x i
 | .extract x i=>(dz P x).map (.lC i)
 | .makeFunc (.func f) fst cap=>nz P f fst cap
 | .makeSlice t l c=>oC P t l c
 | .slice t x lo hi jW=>nr P t x lo hi jW
 | .build t parts=>ns P t parts
 | .buildSlice t len parts=>nG P t len parts
 | .call c=>nA P c
 | .panic _| .makeInterface _ _=>some .bad
 |_=>none
def gB (N:Nat) (d:Option Nat):Bool:=match d with|some d=>decide (d<N)|none=>true
def xo (ops:Array Oper) (g:Option (Nat×Bool)):Option (Option (Nat×Bool)):=
 match g with
 |none=>some none
 |some (j,w)=>match (ops[j]?).bind (·.dst)with
  |some d=>some (some (d,w))
  |none=>none
def lv (P:Program) (N:Nat) (ops:Array Oper) (o:Oper):Option bE:=
 match dm P o.type o.op,xo ops o.guard with
 |some op,some g=>if gB N o.dst then some ⟨o.dst,op,g⟩else none
 |_,_=>none
def pz (P:Program) (N:Nat) (ops:Array Oper):List Oper→Option (List bE)
 |[]=>some []
 |o::r=>match lv P N ops o,pz P N ops r with
  |some a,some b=>some (a::b)
  |_,_=>none
def uI (b:Array Nat) (j:Nat):Bool:=(List.range j).all fun i=>(b.getD j 0).testBit i
def hK (b:Array Nat):Nat→Nat
 |0=>0
 |j+1=>if uI b j then hK b j+1 else 0
def bE.writes (o:bE):List Nat:=
 match o.op,o.dst with
 | .store _ (.t p) _,_=>[p]
 |op,some i=>if op.makes then [i]else []
 |_,_=>[]
def bE.kJ (o:bE):List Nat:=
 o.dst.toList++((o.op.ops.filterMap fun| .t n=>some n|_=>none)++(match o.guard with|some (g,_)=>[g]|none=>[]))
def ordered (b:Array Nat) (i j:Nat):Bool:=(b.getD (max i j) 0).testBit (min i j)
def bE.hX (o:bE):Bool:=match o.op with| .bx _=>true|_=>false
def bE.sK (o:bE):Bool:=match o.op with| .store _ _ _| .call _ _=>true|_=>false
def q9 (b:Array Nat) (l:List bE) (i:Nat):List Nat:=
 ((l.zipIdx.filter fun(_,j)=>j !=i && !ordered b i j).flatMap fun(o,_)=>o.writes)++
 (if ((l[i]?).map bE.sK).getD false && (l.zipIdx.any fun(o,j)=>j !=i && !ordered b i j && !o.hX)then [88888888]else [])
def Fv (x y:bE):Bool:=
 (match x.dst with|some d=> !y.kJ.contains d|none=>true) && (match y.dst with|some d=> !x.kJ.contains d|none=>true) &&
 (x.hX||y.hX||x.writes.all fun d=> !y.writes.contains d)
def wX (b:Array Nat) (l:List bE):Bool:=
 l.zipIdx.all fun(x,i)=>l.zipIdx.all fun(y,j)=>decide (j≤i)||ordered b i j||Fv x y
def adW (o:bE):Bool:=match o.op with
 | .app .. | .copy .. =>false
 |_=>true
def uX (b:Array Nat) (l:List bE):List (bE×List Nat):=l.zipIdx.map fun(o,i)=>(o,q9 b l i)
def uP (ops:Array Oper):Bool:=ops.toList.zipIdx.all fun(o,i)=>o.after.all fun e=> !Region.binds .any e||decide (e.on<i)
def dv (P:Program) (N:Nat):Code→Option au
 | .skip=>some .skip
 | .region _ ops false=>(pz P N ops ops.toList).map .dc
 | .region _ ops true=>match pz P N ops ops.toList with
   |some l=>let b:=Region.before ops
    let p:=ops.size - hK b ops.size
    if (l.take p).all adW && wX b (l.take p) && uP ops then some (.jh (uX b (l.take p)) (l.drop p))else none
   |none=>none
 | .seq a b=>match dv P N a,dv P N b with
   |some a,some b=>some (.seq a b)
   |_,_=>none
 | .cond c a b=>match dz P c,dv P N a,dv P N b with
   |some c,some a,some b=>some (.cond c a b)
   |_,_,_=>none
 | .block id a=>(dv P N a).map (.block id)
 | .loop a=>(dv P N a).map .loop
 | .exit id=>some (.exit id)
 | .ret=>some .ret
 |_=>none
def Fw (P:Program):ResultVar→Option bl
 | .tmp t=>some (.tmp t)
 | .cell a t=>(lF P t).map fun x=> .cell a x.1 x.2
def qS (P:Program):List ResultVar→Option (List bl)
 |[]=>some []
 |r::rs=>match Fw P r,qS P rs with
  |some a,some b=>some (a::b)
  |_,_=>none
def aV (P:Program) (f:Nat):Option (au×List bl):=
 match P.funcs[f]? with
 |some fn=>match fn.body with
  |some c=>match dv P fn.ntmps c,qS P fn.results.toList with
   |some l,some rs=>some (l,rs)
   |_,_=>none
  |none=>none
 |none=>none
end RV
namespace RV
open Go Go.RowKit
structure cY where
 bS:Nat
 off:Nat
 len:Nat
 sz:Nat
 whole:Bool
def cY.has (r:cY) (a:Addr):Prop:=a.block=r.bS∧(r.whole=true∨(r.off≤a.off∧a.off<r.off+r.len))
abbrev bC:=Nat→Option cY
mutual
def aP (rd:Mem) (β:bC):ag→Value→Prop
 | .d x,v=>bn rd x v
 | .agg cs,v=>∃vs,v= .agg vs∧bN rd β cs vs.toList
 | .box i off,v=>∃r,β i=some r∧v= .pointer (some (cellAt r.bS (r.off+off)))
 | .own i lo n,v=>∃A cap,v= .slice A n cap∧n≤cap∧((n=0∧cap=0)∨∃r,β i=some r∧A=some (cellAt r.bS (r.off+lo*r.sz))∧(r.whole=true→lo*r.sz+cap*r.sz≤r.len))
 | .dr i j off,v=>∃r,β i=some r∧v= .pointer (some (cellAt r.bS (r.off+j*r.sz+off)))
 | .c0 f a b,v=>∃e8 vc,v= .func (.func f) e8 vc∧bN rd β a e8.toList∧bN rd β b vc.toList
 | .c6 l,v=>v= .func (.yield l) #[] #[]
 | .c1,v=>v=undef
 | .any,_=>True
def bN (rd:Mem) (β:bC):List ag→List Value→Prop
 |[],vs=>vs=[]
 |c::cs,vs=>∃v us,vs=v::us∧aP rd β c v∧bN rd β cs us
end
mutual
theorem aP.mono {r r':Mem} (h:bT r r') {β:bC} :∀(x:ag) (v:Value),aP r β x v→aP r' β x v
 | .d x,_,H=>by simp only[aP]at*;exact bn.mono h x _ H
 | .agg cs,_,H=>by
   simp only[aP]at*
   obtain⟨vs,e,H⟩:=H
   exact⟨vs,e,bN.mono h cs _ H⟩
 | .box _ _,_,H=>by simp only[aP]at*;exact H
 | .own _ _ _,_,H=>by simp only[aP]at*;exact H
 | .dr _ _ _,_,H=>by simp only[aP]at*;exact H
 | .c0 _ x y,_,H=>by
   simp only[aP]at*
   obtain⟨e8,vc,e,H1,et⟩:=H
   exact⟨e8,vc,e,bN.mono h x _ H1,bN.mono h y _ et⟩
 | .c6 _,_,H=>by simp only[aP]at*;exact H
 | .c1,_,H=>by simp only[aP]at*;exact H
 | .any,_,_=>by simp only[aP]
theorem bN.mono {r r':Mem} (h:bT r r') {β:bC} :∀(xs:List ag) (vs:List Value),bN r β xs vs→bN r' β xs vs
 |[],_,H=>by simpa only[bN]using H
 |x::xs,_,H=>by
  simp only[bN]at*
  obtain⟨v,us,e,h1,h2⟩:=H
  exact⟨v,us,e,aP.mono h x v h1,bN.mono h xs us h2⟩
end
mutual
theorem aP.congr {r:Mem} {β β':bC} :∀(x:ag) (v:Value),(∀j,x.has j=true→β' j=β j)→aP r β x v→aP r β' x v
 | .d x,_,_,H=>by simpa only[aP]using H
 | .agg cs,_,h,H=>by
   simp only[aP]at*
   obtain⟨vs,e,H⟩:=H
   exact⟨vs,e,bN.congr cs _ (fun j az=>h j (by simpa only[ag.has]using az)) H⟩
 | .box i _,_,h,H=>by
   have:=h i (by simp[ag.has])
   simp only[aP,this]at*;exact H
 | .own i _ _,_,h,H=>by
   have:=h i (by simp[ag.has])
   simp only[aP,this]at*;exact H
 | .dr i _ _,_,h,H=>by
   have:=h i (by simp[ag.has])
   simp only[aP,this]at*;exact H
 | .c0 _ x y,_,h,H=>by
   simp only[aP]at*
   obtain⟨e8,vc,e,H1,et⟩:=H
   exact⟨e8,vc,e,bN.congr x _ (fun j az=>h j (by simp[ag.has,az])) H1,bN.congr y _ (fun j az=>h j (by simp[ag.has,az])) et⟩
 | .c6 _,_,_,H=>by simpa only[aP]using H
 | .c1,_,_,H=>by simpa only[aP]using H
 | .any,_,_,_=>by simp only[aP]
theorem bN.congr {r:Mem} {β β':bC} :∀(xs:List ag) (vs:List Value),(∀j,ag.cC j xs=true→β' j=β j)→bN r β xs vs→bN r β' xs vs
 |[],_,_,H=>by simpa only[bN]using H
 |x::xs,_,h,H=>by
  simp only[bN]at*
  obtain⟨v,us,e,h1,h2⟩:=H
  exact⟨v,us,e,aP.congr x v (fun j az=>h j (by simp[ag.cC,az])) h1,bN.congr xs us (fun j az=>h j (by simp[ag.cC,az])) h2⟩
end
theorem aP.kill {r:Mem} {β β':bC} {i:Nat} (fI:∀j,j≠i→β' j=β j) {x:ag} {v:Value} (H:aP r β x v):aP r β' (x.kill i) v:=by
 have key:aP r β' (if x.has i then ag.any else x) v:=by
  by_cases ah:x.has i=true
  ·rw[if_pos ah];simp only[aP]
  ·rw[if_neg ah]
   refine aP.congr x v (fun j az=>fI j fun e=>ah (e▸az)) H
 unfold ag.kill
 split
 ·simpa [ag.has]using key
 ·exact key
def cA (w:World) (rd:Mem) (β:bC) (b:Nat):Nat→List ag→Prop
 |_,[]=>True
 |o,v::vs=>(∃u,w.cell? (cellAt b o)=some u∧aP rd β v u)∧cA w rd β b (o+1) vs
def cD (w:World) (rd:Mem) (b:Nat):Nat→List D→Prop
 |_,[]=>True
 |o,v::vs=>(∃u,w.cell? (cellAt b o)=some u∧bn rd v u)∧cD w rd b (o+1) vs
def gh (w:World) (rd:Mem) (b sz:Nat):Nat→List (List D)→Prop
 |_,[]=>True
 |o,r::rs=>r.length=sz∧cD w rd b o r∧gh w rd b sz (o+sz) rs
def ey (w:World) (rd:Mem) (β:bC) (r:cY):BC→Prop
 | .cells cs=>cs.length≤r.len∧cA w rd β r.bS r.off cs
 | .ints k xs=>r.sz=1∧xs.length≤r.len∧fb w.cell? k r.bS r.off xs
 | .flts xs=>r.sz=1∧xs.length≤r.len∧fk w.cell? r.bS r.off xs
 | .recs sz xs=>r.sz=sz∧xs.length*sz≤r.len∧gh w rd r.bS sz r.off xs
def kN (w:World) (r:cY):Prop:=
 ∃arr e cd,w.heap[r.bS]? =some (.cells arr e cd)∧r.off+r.len≤arr.size∧(∀o,r.off≤o→o<r.off+r.len→¬(cd.1≤o∧o<cd.2))∧
  (r.whole=true→r.off=0∧arr.size=r.len∧cd=(0,0))
def BC.isNil:BC→Bool
 | .ints _ []| .flts []| .recs _ []=>true
 |_=>false
def sS (R:bC) (b:Nat) (o o':Option Obj):Prop:=
 o'=o∨∃c e cd c',o=some (.cells c e cd)∧o'=some (.cells c' e cd)∧c'.size=c.size∧∀i:Nat,(∀j r,R j=some r→¬r.has (cellAt b i))→c'[i]? =c[i]?
structure hl (R:bC) (aK w:World):Prop where
 os:w.os=aK.os
 tape:w.tape=aK.tape
 output:w.output=aK.output
 size:aK.heap.size≤w.heap.size
 block:∀k,k<aK.heap.size→sS R k (aK.heap[k]?) (w.heap[k]?)
structure dU extends World where
 c4:Nat→Option Obj
def _root_.Go.World.base (w:World):dU:=⟨w,fun _=>none⟩
def qT (o:Obj):Prop:=∀c t cd,o≠ .cells c t cd
def Safe (rd:Mem) (β:bC) (k:Nat) (o:Obj):Prop:=qT o∨((∀i r,β i=some r→r.bS≠k)∧∀a:Addr,a.block=k→rd a=none)
theorem Safe.to {rd e6:Mem} {β iq:bC} {k:Nat} {o:Obj} (h:Safe rd β k o) (aq:∀a v,e6 a=some v→a.block=k→rd a=some v∨∃i r,β i=some r∧r.bS=k) (fI:∀i r,iq i=some r→r.bS=k→∃j r',β j=some r'∧r'.bS=k):Safe e6 iq k o:=by
 rcases h with h|⟨a,b⟩
 ·exact .inl h
 ·refine .inr ⟨fun i r hi e=> ?_,fun aL ar=> ?_⟩
  ·obtain⟨j,r',az,e'⟩:=fI i r hi e
   exact a j r' az e'
  ·cases e:e6 aL with
   |none=>rfl
   |some v=>
    rcases aq aL v e ar with h|⟨i,r,hi,e'⟩
    ·rw[b aL ar]at h;cases h
    ·exact absurd e' (a i r hi)
structure a8 (N:Nat) (aK:dU) (aF:Mem) (R:bC) (σ:St) (a:Act) (w:World) (rd:Mem) (β:bC):Prop where
 size:a.tmps.size=N
 defers:a.defers=[]
 cw:hl R aK.toWorld w
 c4:∀k o,aK.c4 k=some o→Safe rd β k o∧w.heap[k]? =some o
 cJ:bT rd w.cell?
 dd:bT aF rd
 aF:∀a v,rd a=some v→a.block<aK.heap.size→aF a=some v
 dV:∀i r b,β i=some r→σ.aw i=some b→b.cd=false→∀a,r.has a→rd a=none
 dW:∀t,aP rd β (σ.af t) (a.tmps.getD t undef)
 box:∀i r,β i=some r→∃b,σ.aw i=some b∧ey w rd β r b.c∧kN w r∧(b.ext=false→aK.heap.size≤r.bS∧r.whole=true)∧(b.ext=true→R i=some r∧r.whole=false)
 dP:∀i b,σ.aw i=some b→β i=none→(b.ext=true→R i=none)∧b.c.isNil=true
 dS:∀i j aD ha,i≠j→β i=some aD→β j=some ha→∀a,aD.has a→¬ha.has a
theorem cA.mono {w w':World} {rd rd':Mem} {β β':bC} {b:Nat} :∀{cs:List ag} {o:Nat},
 (∀i,o≤i→i<o+cs.length→w'.cell? (cellAt b i)=w.cell? (cellAt b i))→(∀v∈cs,∀u,aP rd β v u→aP rd' β' v u)→
 cA w rd β b o cs→cA w' rd' β' b o cs
 |[],_,_,_,_=>trivial
 |v::vs,o,ao,aA,⟨⟨u,e,H⟩,et⟩=>
  ⟨⟨u,by rw[ao o (by omega) (by simp)];exact e,aA v (by simp) u H⟩,
    cA.mono (fun i h1 h2=>ao i (by omega) (by simp;omega)) (fun x ah=>aA x (by simp[ah])) et⟩
theorem cD.mono {w w':World} {rd rd':Mem} (hm:bT rd rd') {b:Nat} :∀{cs:List D} {o:Nat},
 (∀i,o≤i→i<o+cs.length→w'.cell? (cellAt b i)=w.cell? (cellAt b i))→cD w rd b o cs→cD w' rd' b o cs
 |[],_,_,_=>trivial
 |v::vs,o,ao,⟨⟨u,e,H⟩,et⟩=>
  ⟨⟨u,by rw[ao o (by omega) (by simp)];exact e,H.mono hm v u⟩,cD.mono hm (fun i h1 h2=>ao i (by omega) (by simp;omega)) et⟩
theorem gh.mono {w w':World} {rd rd':Mem} (hm:bT rd rd') {b sz:Nat} :∀{rs:List (List D)} {o:Nat},
 (∀i,o≤i→i<o+rs.length*sz→w'.cell? (cellAt b i)=w.cell? (cellAt b i))→gh w rd b sz o rs→gh w' rd' b sz o rs
 |[],_,_,_=>trivial
 |r::rs,o,ao,⟨h1,h2,al⟩=>by
  have e:(r::rs).length*sz=sz+rs.length*sz:=by simp[Nat.succ_mul];omega
  rw[e]at ao
  exact⟨h1,h2.mono hm (fun i a b=>ao i a (by omega)),gh.mono hm (fun i a b=>ao i (by omega) (by omega)) al⟩
theorem fb.cells {m eB:Mem} {k:IntKind} {b:Nat} :∀{xs:List Int} {o:Nat},(∀i,o≤i→i<o+xs.length→eB (cellAt b i)=m (cellAt b i))→fb m k b o xs→fb eB k b o xs
 |[],_,_,_=>trivial
 |_::_,o,ao,⟨h1,h2⟩=>⟨by rw[ao o (by omega) (by simp)];exact h1,fb.cells (fun i a b=>ao i (by omega) (by simp;omega)) h2⟩
theorem fk.cells {m eB:Mem} {b:Nat} :∀{xs:List Nat} {o:Nat},(∀i,o≤i→i<o+xs.length→eB (cellAt b i)=m (cellAt b i))→fk m b o xs→fk eB b o xs
 |[],_,_,_=>trivial
 |_::_,o,ao,⟨⟨y,h1,e⟩,h2⟩=>⟨⟨y,by rw[ao o (by omega) (by simp)];exact h1,e⟩,fk.cells (fun i a b=>ao i (by omega) (by simp;omega)) h2⟩
theorem ey.mono {w w':World} {rd rd':Mem} (hm:bT rd rd') {β β':bC} {r:cY} {c:BC}
 (ao:∀i,r.off≤i→i<r.off+r.len→w'.cell? (cellAt r.bS i)=w.cell? (cellAt r.bS i))
 (aA:∀cs,c= .cells cs→∀v∈cs,∀u,aP rd β v u→aP rd' β' v u) (H:ey w rd β r c):ey w' rd' β' r c:=by
 cases c with
 |cells cs=>exact⟨H.1,H.2.mono (fun i a b=>ao i a (by have:=H.1;omega)) (aA cs rfl)⟩
 |ints k xs=>exact⟨H.1,H.2.1,H.2.2.cells fun i a b=>ao i a (by have:=H.2.1;omega)⟩
 |flts xs=>exact⟨H.1,H.2.1,H.2.2.cells fun i a b=>ao i a (by have:=H.2.1;omega)⟩
 |recs sz xs=>exact⟨H.1,H.2.1,H.2.2.mono hm fun i a b=>ao i a (by have:=H.2.1;omega)⟩
theorem kN.lt {w:World} {r:cY} (h:kN w r):r.bS<w.heap.size:=by
 obtain⟨arr,e,cd,h,_⟩:=h
 rcases Nat.lt_or_ge r.bS w.heap.size with dT|dT
 ·exact dT
 ·rw[Array.getElem?_eq_none dT]at h;cases h
theorem kN.sE {w w':World} {r:cY} (h:kN w r) (e:w'.heap[r.bS]? =w.heap[r.bS]?):kN w' r:=by
 obtain⟨arr,t,cd,h,h2⟩:=h
 exact⟨arr,t,cd,e.trans h,h2⟩
theorem na {w w':World} {a:Addr} (e:w'.heap[a.block]? =w.heap[a.block]?):w'.cell? a=w.cell? a:=by
 unfold World.cell?;rw[e]
theorem qL {w:World} {a:Addr} {v:Value} (h:w.cell? a=some v):a.block<w.heap.size:=World.block_lt_of_cell? _ _ h
theorem sS.refl (R:bC) (b:Nat) (o:Option Obj):sS R b o o:= .inl rfl
theorem sS.trans {R:bC} {b:Nat} {x y z:Option Obj} (h:sS R b x y) (k:sS R b y z):sS R b x z:=by
 rcases h with rfl|⟨c,e,cd,c',h1,h2,al,aE⟩
 ·exact k
 ·rcases k with rfl|⟨d,e',agu,k8,br,bw,c3,gW⟩
  ·exact .inr ⟨c,e,cd,c',h1,h2,al,aE⟩
  ·rw[h2]at br
   simp only[Option.some.injEq,Obj.cells.injEq]at br
   obtain⟨rfl,rfl,rfl⟩:=br
   exact .inr ⟨c,e,cd,k8,h1,bw,c3.trans al,fun i hi=>(gW i hi).trans (aE i hi)⟩
theorem hl.refl (R:bC) (w:World):hl R w w:=⟨rfl,rfl,rfl,Nat.le_refl _,fun _ _=> .inl rfl⟩
theorem hl.trans {R:bC} {a b c:World} (h:hl R a b) (k:hl R b c):hl R a c:=
 ⟨k.os.trans h.os,k.tape.trans h.tape,k.output.trans h.output,Nat.le_trans h.size k.size,fun i hi=>(h.block i hi).trans (k.block i (Nat.lt_of_lt_of_le hi h.size))⟩
theorem hl.below {R:bC} {aK w w':World} (h:hl R aK w) (k:Below w.heap.size w w'):hl R aK w':=
 h.trans ⟨k.os,k.tape,k.output,k.size,fun i hi=> .inl (k.block i hi)⟩
theorem Mj {N d:Nat} (h:gB N (some d)=true):d<N:=by simpa [gB]using h
theorem abD {a:Act} {N:Nat} (ay:a.tmps.size=N) {dst:Option Nat} (aC:gB N dst=true) (u:Value) (t:Nat):
 (a.put dst u).tmps.getD t undef=if dst=some t then u else a.tmps.getD t undef:=by
 cases dst with
 |none=>simp[Act.put]
 |some d=>
  have aC:=Mj aC
  by_cases e:d=t
  ·subst e
   simp[Act.put,Array.getD_eq_getD_getElem?,ay,aC]
  ·simp[Act.put,e,Array.getD_eq_getD_getElem?,Array.getElem?_setIfInBounds_ne e]
theorem eS (σ:St) (dst:Option Nat) (v:ag) (t:Nat):(σ.put dst v).af t=if dst=some t then v else σ.af t:=by
 cases dst with
 |none=>simp[St.put]
 |some d=>simp only[St.put,Ug,Option.some.injEq];by_cases e:t=d<;>simp[e,eq_comm]
theorem j6 (σ:St) (dst:Option Nat) (v:ag):(σ.put dst v).aw=σ.aw:=by cases dst<;>rfl
theorem abE (a:Act) (dst:Option Nat) (u:Value):(a.put dst u).tmps.size=a.tmps.size:=by cases dst<;>simp[Act.put]
theorem put_defers (a:Act) (dst:Option Nat) (u:Value):(a.put dst u).defers=a.defers:=by cases dst<;>rfl
section
variable {N:Nat} {aK:dU} {aF:Mem} {R:bC} {σ:St} {a:Act} {w:World} {rd:Mem} {β:bC}
theorem a8.put (h:a8 N aK aF R σ a w rd β) {dst:Option Nat} (aC:gB N dst=true) {v:ag} {u:Value} (aA:aP rd β v u):
 a8 N aK aF R (σ.put dst v) (a.put dst u) w rd β where
 size:=by rw[abE];exact h.size
 defers:=by rw[put_defers];exact h.defers
 cw:=h.cw
 c4:=h.c4
 cJ:=h.cJ
 dd:=h.dd
 aF:=h.aF
 dV:=by rw[j6];exact h.dV
 dW:=fun t=>by
  rw[eS,abD h.size aC]
  split
  ·exact aA
  ·exact h.dW t
 box:=by rw[j6];exact h.box
 dP:=by rw[j6];exact h.dP
 dS:=h.dS
theorem En {w bW:World} (ar:Below w.heap.size w bW) {rd e6:Mem} {β iq:bC} (aq:∀a v,e6 a=some v→a.block<w.heap.size→rd a=some v) (fI:∀i r,iq i=some r→β i=some r∨w.heap.size≤r.bS) {M:Nat→Option Obj} (h:∀k o,M k=some o→Safe rd β k o∧w.heap[k]? =some o):∀k o,M k=some o→Safe e6 iq k o∧bW.heap[k]? =some o:=fun k o ad=>by
 obtain⟨h1,h2⟩:=h k o ad
 have bp:=(Array.getElem?_eq_some_iff.1 h2).1
 exact⟨h1.to (fun a v e ad=> .inl (aq a v e (by omega))) (fun i r hi e=>by rcases fI i r hi with h|h;exact⟨i,r,h,e⟩;omega),by rw[ar.block k (Array.getElem?_eq_some_iff.1 h2).1];exact h2⟩
theorem a8.more (h:a8 N aK aF R σ a w rd β) {bW:World} (ar:Below w.heap.size w bW) {e6:Mem} (hle:bT rd e6) (hw:bT e6 bW.cell?)
 (hold:∀a v,e6 a=some v→a.block<w.heap.size→rd a=some v):a8 N aK aF R σ a bW e6 β where
 size:=h.size
 defers:=h.defers
 cw:=h.cw.below ar
 c4:=En ar hold (fun _ _ h=> .inl h) h.c4
 cJ:=hw
 dd:=h.dd.trans hle
 aF:=fun a v e aB=>h.aF a v (hold a v e (Nat.lt_of_lt_of_le aB h.cw.size)) aB
 dV:=fun i r b hi ah hf aL a2=>by
  obtain⟨_,_,_,aS,_⟩:=h.box i r hi
  cases e:e6 aL with
  |none=>rfl
  |some v=>
   have bp:aL.block<w.heap.size:=by rw[a2.1];exact aS.lt
   have:=hold aL v e bp
   rw[h.dV i r b hi ah hf aL a2]at this
   cases this
 dW:=fun t=>(h.dW t).mono hle
 box:=fun i r hi=>by
  obtain⟨b,ah,ao,aS,h1,h2⟩:=h.box i r hi
  have bp:=aS.lt
  exact⟨b,ah,ao.mono hle (fun j _ _=>na (ar.block _ bp)) (fun _ _ v _ u H=>aP.mono hle v u H),aS.sE (ar.block _ bp),h1,h2⟩
 dP:=h.dP
 dS:=h.dS
end
end RV
namespace RV
open Go Go.RowKit
noncomputable def plus (w:World) (S:Addr→Prop) (rd:Mem):Mem:=fun a=>
 match rd a with
 |some v=>some v
 |none=>open Classical in if S a then w.cell? a else none
theorem jH (w:World) (S:Addr→Prop) (rd:Mem):bT rd (plus w S rd):=fun a v h=>by simp[plus,h]
theorem oo {w:World} {S:Addr→Prop} {rd:Mem} (h:bT rd w.cell?):bT (plus w S rd) w.cell? :=fun a v e=>by
 unfold plus at e
 split at e
 ·rename_i u hu;rw[←e];exact h a u hu
 ·split at e
  ·exact e
  ·cases e
theorem E1 {w:World} {S:Addr→Prop} {rd:Mem} (h:bT rd w.cell?) {a:Addr} (ay:S a):plus w S rd a=w.cell? a:=by
 unfold plus
 split
 ·rename_i u hu;exact(h a u hu).symm
 ·rw[if_pos ay]
theorem oi {w:World} {S:Addr→Prop} {rd:Mem} {a:Addr} (ay:¬S a):plus w S rd a=rd a:=by
 unfold plus
 split
 ·rename_i u hu;exact hu.symm
 ·rename_i hu;rw[if_neg ay,hu]
def hT (w w':World) (rd:Mem):Mem:=fun a=>if a.block<w.heap.size then rd a else w'.cell? a
section
variable {N:Nat} {aK:dU} {aF:Mem} {R:bC} {σ σ':St} {a:Act} {w:World} {rd:Mem} {β β':bC}
def BC.fm (f:ag→ag):BC→BC
 | .cells cs=> .cells (cs.map f)
 |c=>c
def b1.fm (f:ag→ag) (b:b1):b1:=⟨b.cd,b.ext,b.c.fm f⟩
theorem b1.xb (i:Nat) (b:b1):b.kill i=b.fm (ag.kill i):=by
 cases b with|mk f e c=>cases c<;>rfl
theorem b1.acx (b:b1):b.fm (fun v=>v)=b:=by
 cases b with|mk f e c=>cases c<;>simp[b1.fm,BC.fm]
theorem cA.fm {w w':World} {rd:Mem} {f:ag→ag} (hf:∀x v,aP rd β x v→aP rd β' (f x) v) {b:Nat} :∀{cs:List ag} {o:Nat},
 (∀i,o≤i→i<o+cs.length→w'.cell? (cellAt b i)=w.cell? (cellAt b i))→cA w rd β b o cs→cA w' rd β' b o (cs.map f)
 |[],_,_,_=>trivial
 |v::vs,o,ao,⟨⟨u,e,H⟩,et⟩=>⟨⟨u,by rw[ao o (by omega) (by simp)];exact e,hf v u H⟩,cA.fm hf (fun i h1 h2=>ao i (by omega) (by simp;omega)) et⟩
theorem ey.fm {w w':World} {rd:Mem} {f:ag→ag} (hf:∀x v,aP rd β x v→aP rd β' (f x) v) {r:cY} {c:BC}
 (ao:∀i,r.off≤i→i<r.off+r.len→w'.cell? (cellAt r.bS i)=w.cell? (cellAt r.bS i)) (H:ey w rd β r c):ey w' rd β' r (c.fm f):=by
 cases c with
 |cells cs=>exact⟨by simpa [BC.fm]using H.1,H.2.fm hf (fun i a b=>ao i a (by have:=H.1;omega))⟩
 |ints k xs=>exact H.mono (bT.refl _) ao (fun cs e=>by cases e)
 |flts xs=>exact H.mono (bT.refl _) ao (fun cs e=>by cases e)
 |recs sz xs=>exact H.mono (bT.refl _) ao (fun cs e=>by cases e)
theorem uD (f:ag→ag) (c:BC):(c.fm f).isNil=c.isNil:=by cases c<;>rfl
theorem a8.new (h:a8 N aK aF R σ a w rd β) {i:Nat} {b:b1} (he:b.ext=false) {o:Obj} {r:cY} (aq:r.bS=w.heap.size) (yb:r.whole=true)
 {f:ag→ag} (hf:∀x v,aP rd β x v→aP rd (fun j=>if j=i then some r else β j) (f x) v)
 (tv:σ'.af=fun t=>f (σ.af t)) (gQ:∀j,σ'.aw j=if j=i then some b else (σ.aw j).map (b1.fm f))
 (ao:ey (w.alloc o) rd (fun j=>if j=i then some r else β j) r b.c) (aS:kN (w.alloc o) r):
 a8 N aK aF R σ' a (w.alloc o) rd (fun j=>if j=i then some r else β j)where
 size:=h.size
 defers:=h.defers
 cw:=h.cw.below ((Below.refl _ _).alloc (Nat.le_refl _) o)
 c4:=En ((Below.refl _ _).alloc (Nat.le_refl _) o) (fun _ _ e _=>e) (fun j r' az=>by split at az;simp only[Option.some.injEq]at az;subst az;exact .inr (by omega);exact .inl az) h.c4
 dd:=h.dd
 cJ:=fun aL v e=>by rw[World.cell?_alloc_lt _ _ _ (qL (h.cJ aL v e))];exact h.cJ aL v e
 aF:=h.aF
 dV:=fun j r' fD az ah bg aL a2=>by
  split at az
  ·simp only[Option.some.injEq]at az
   subst az
   cases e:rd aL with
   |none=>rfl
   |some v=>have:=qL (h.cJ aL v e);have:=a2.1;omega
  ·rename_i eG
   rw[gQ,if_neg eG]at ah
   obtain⟨cR,h0,_⟩:=h.box j r' az
   rw[h0]at ah
   simp only[Option.map_some,Option.some.injEq]at ah
   subst ah
   exact h.dV j r' cR az h0 bg aL a2
 dW:=fun t=>by rw[tv];exact hf _ _ (h.dW t)
 box:=fun j r' az=>by
  split at az
  ·rename_i eG
   simp only[Option.some.injEq]at az
   subst az
   refine⟨b,by rw[gQ,if_pos eG],ao,aS,fun _=>⟨by rw[aq];exact h.cw.size,yb⟩,fun e=>by rw[he]at e;cases e⟩
  ·rename_i eG
   obtain⟨cR,h0,de,eM,h1,h2⟩:=h.box j r' az
   have bp:=eM.lt
   have yc:(w.alloc o).heap[r'.bS]? =w.heap[r'.bS]? :=Below.heap_alloc _ _ _ bp
   exact⟨cR.fm f,by rw[gQ,if_neg eG,h0];rfl,de.fm hf (fun k _ _=>na yc),eM.sE yc,h1,h2⟩
 dP:=fun j fD ah az=>by
  split at az
  ·cases az
  ·rename_i eG
   rw[gQ,if_neg eG]at ah
   cases h0:σ.aw j with
   |none=>rw[h0]at ah;cases ah
   |some cR=>
    rw[h0]at ah
    simp only[Option.map_some,Option.some.injEq]at ah
    subst ah
    obtain⟨br,bw⟩:=h.dP j cR h0 az
    exact⟨br,by rw[←bw];exact uD f cR.c⟩
 dS:=fun j k ha kt lK az ad aL a2 cK=>by
  split at az<;>split at ad
  ·omega
  ·simp only[Option.some.injEq]at az
   subst az
   obtain⟨_,_,_,eM,_⟩:=h.box k kt ad
   have:=eM.lt
   have:=a2.1
   have:=cK.1
   omega
  ·simp only[Option.some.injEq]at ad
   subst ad
   obtain⟨_,_,_,eM,_⟩:=h.box j ha az
   have:=eM.lt
   have:=a2.1
   have:=cK.1
   omega
  ·exact h.dS j k ha kt lK az ad aL a2 cK
theorem a8.PZ (h:a8 N aK aF R σ a w rd β) {i:Nat} {b:b1} (he:b.ext=false) (aH:b.c.isNil=true)
 {f:ag→ag} (hf:∀x v,aP rd β x v→aP rd (fun j=>if j=i then none else β j) (f x) v)
 (tv:σ'.af=fun t=>f (σ.af t)) (gQ:∀j,σ'.aw j=if j=i then some b else (σ.aw j).map (b1.fm f)):
 a8 N aK aF R σ' a w rd (fun j=>if j=i then none else β j)where
 size:=h.size
 defers:=h.defers
 cw:=h.cw
 c4:=fun k o ad=>⟨(h.c4 k o ad).1.to (fun _ _ e _=> .inl e) (fun j r' az e=>by split at az;cases az;exact⟨j,r',az,e⟩),(h.c4 k o ad).2⟩
 cJ:=h.cJ
 dd:=h.dd
 aF:=h.aF
 dV:=fun j r' fD az ah bg aL a2=>by
  split at az
  ·cases az
  ·rename_i eG
   rw[gQ,if_neg eG]at ah
   obtain⟨cR,h0,_⟩:=h.box j r' az
   rw[h0]at ah
   simp only[Option.map_some,Option.some.injEq]at ah
   subst ah
   exact h.dV j r' cR az h0 bg aL a2
 dW:=fun t=>by rw[tv];exact hf _ _ (h.dW t)
 box:=fun j r' az=>by
  split at az
  ·cases az
  ·rename_i eG
   obtain⟨cR,h0,de,eM,h1,h2⟩:=h.box j r' az
   exact⟨cR.fm f,by rw[gQ,if_neg eG,h0];rfl,de.fm hf (fun _ _ _=>rfl),eM,h1,h2⟩
 dP:=fun j fD ah az=>by
  split at az
  ·rename_i eG
   rw[gQ,if_pos eG]at ah
   simp only[Option.some.injEq]at ah
   subst ah
   exact⟨(fun e=>by rw[he]at e;cases e),aH⟩
  ·rename_i eG
   rw[gQ,if_neg eG]at ah
   cases h0:σ.aw j with
   |none=>rw[h0]at ah;cases ah
   |some cR=>
    rw[h0]at ah
    simp only[Option.map_some,Option.some.injEq]at ah
    subst ah
    obtain⟨br,bw⟩:=h.dP j cR h0 az
    exact⟨br,by rw[←bw];exact uD f cR.c⟩
 dS:=fun j k ha kt lK az ad=>by
  split at az
  ·cases az
  ·split at ad
   ·cases ad
   ·exact h.dS j k ha kt lK az ad
theorem a8.store (h:a8 N aK aF R σ a w rd β) {i:Nat} {r:cY} (hi:β i=some r) {e:Bool} {c c':BC} (ah:σ.aw i=some ⟨false,e,c⟩)
 {arr ij:Array Value} {t:TypeId} {cd:Nat×Nat} (hw:w.heap[r.bS]? =some (.cells arr t cd)) (eN:ij.size=arr.size)
 (fH:∀k,¬(r.off≤k∧k<r.off+r.len)→ij[k]? =arr[k]?)
 (ao:ey { w with heap:=w.heap.setIfInBounds r.bS (.cells ij t cd) } rd β r c'):
 a8 N aK aF R (σ.dK i ⟨false,e,c'⟩) a { w with heap:=w.heap.setIfInBounds r.bS (.cells ij t cd) } rd β:=by
 have bp:r.bS<w.heap.size:=by
  rcases Nat.lt_or_ge r.bS w.heap.size with dT|dT
  ·exact dT
  ·rw[Array.getElem?_eq_none dT]at hw;cases hw
 have vg:∀k,k≠r.bS→(w.heap.setIfInBounds r.bS (.cells ij t cd))[k]? =w.heap[k]? :=fun k ad=>Array.getElem?_setIfInBounds_ne (Ne.symm ad)
 have sV:(w.heap.setIfInBounds r.bS (.cells ij t cd))[r.bS]? =some (.cells ij t cd):=by
  rw[Array.getElem?_setIfInBounds_self_of_lt bp]
 obtain⟨cR,h0,de,eM,fQ,eH⟩:=h.box i r hi
 rw[ah]at h0
 simp only[Option.some.injEq]at h0
 subst h0
 have gl:∀aL:Addr,¬r.has aL→World.cell? { w with heap:=w.heap.setIfInBounds r.bS (.cells ij t cd) } aL=w.cell? aL:=by
  intro aL eI
  unfold World.cell?
  dsimp only
  by_cases ar:aL.block=r.bS
  ·rw[ar,sV,hw]
   dsimp only
   split
   ·rfl
   ·refine fH _ fun aq=>eI ⟨ar,.inr aq⟩
  ·rw[vg _ ar]
 have gH:hl R aK.toWorld { w with heap:=w.heap.setIfInBounds r.bS (.cells ij t cd) } :=by
  refine⟨h.cw.os,h.cw.tape,h.cw.output,by simpa using h.cw.size,fun k ad=> ?_⟩
  by_cases ar:k=r.bS
  ·subst ar
   refine(h.cw.block _ ad).trans ?_
   rw[sV,hw]
   cases e with
   |false=>have:=(fQ rfl).1;omega
   |true=>
    refine .inr ⟨arr,t,cd,ij,rfl,rfl,eN,fun k ad=>fH k fun aq=>ad i r (eH rfl).1 ⟨rfl,.inr aq⟩⟩
  ·rw[vg k ar];exact h.cw.block k ad
 exact {
  size:=h.size
  defers:=h.defers
  cw:=gH
  c4:=fun k o ad=>by
   obtain⟨h1,h2⟩:=h.c4 k o ad
   refine⟨h1,?_⟩
   by_cases ar:k=r.bS
   ·rw[ar,hw]at h2
    rcases h1 with h1|⟨h1,_⟩
    ·exact absurd (Option.some.inj h2).symm (h1 _ _ _)
    ·exact absurd ar.symm (h1 i r hi)
   ·rw[vg k ar];exact h2
  dd:=h.dd
  cJ:=fun aL v aA=>by
   rw[gl aL fun eI=>by rw[h.dV i r _ hi ah rfl aL eI]at aA;cases aA]
   exact h.cJ aL v aA
  aF:=h.aF
  dV:=fun j r' fD az cK bg aL a2=>by
   by_cases eG:j=i
   ·subst eG
    rw[hi]at az
    simp only[Option.some.injEq]at az
    subst az
    exact h.dV j r _ hi ah rfl aL a2
   ·refine h.dV j r' fD az ?_ bg aL a2
    simpa [St.dK,kM,eG]using cK
  dW:=h.dW
  box:=fun j r' az=>by
   by_cases eG:j=i
   ·subst eG
    rw[hi]at az
    simp only[Option.some.injEq]at az
    subst az
    refine⟨⟨false,e,c'⟩,by simp[St.dK,kM],ao,?_,fQ,eH⟩
    obtain⟨aer,t0,agv,l4,br,bw,c3⟩:=eM
    rw[hw]at l4
    simp only[Option.some.injEq,Obj.cells.injEq]at l4
    obtain⟨rfl,rfl,rfl⟩:=l4
    exact⟨ij,t,cd,sV,by rw[eN];exact br,bw,fun g6=>⟨(c3 g6).1,by rw[eN];exact(c3 g6).2.1,(c3 g6).2.2⟩⟩
   ·obtain⟨cf,m5,bB,p1,c8,hP⟩:=h.box j r' az
    refine⟨cf,by simpa [St.dK,kM,eG]using m5,?_,?_,c8,hP⟩
    ·refine bB.mono (bT.refl _) (fun k vx tw=>gl _ fun eI=>h.dS i j r r' (Ne.symm eG) hi az _ eI ⟨rfl,.inr ⟨vx,tw⟩⟩) (fun _ _ _ _ _ H=>H)
    ·by_cases ar:r'.bS=r.bS
     ·obtain⟨aer,t0,agv,l4,br,bw,c3⟩:=p1
      rw[ar,hw]at l4
      simp only[Option.some.injEq,Obj.cells.injEq]at l4
      obtain⟨rfl,rfl,rfl⟩:=l4
      exact⟨ij,t,cd,by rw[ar];exact sV,by rw[eN];exact br,bw,fun g6=>⟨(c3 g6).1,by rw[eN];exact(c3 g6).2.1,(c3 g6).2.2⟩⟩
     ·exact p1.sE (vg _ ar)
  dP:=fun j fD cK az=>by
   by_cases eG:j=i
   ·subst eG;rw[hi]at az;cases az
   ·exact h.dP j fD (by simpa [St.dK,kM,eG]using cK) az
  dS:=h.dS }
def hn (β:bC) (vs:List ag) (aL:Addr):Prop:=∃i r,ag.cC i vs=true∧β i=some r∧r.has aL
theorem Fx (σ:St) (i j:Nat):(σ.oQ i).aw j=bif i==j then (σ.aw j).map (fun b=>⟨true,b.ext,b.c⟩)else σ.aw j:=by
 by_cases e:j=i
 ·subst e;simp[St.oQ]
 ·have:(i==j)=false:=by simp;omega
  simp[St.oQ,e,this]
mutual
theorem abF (σ:St):∀(v:ag) (j:Nat),(gA σ v).aw j=bif v.has j then (σ.aw j).map (fun b=>⟨true,b.ext,b.c⟩)else σ.aw j
 | .d _,j=>by simp[gA,ag.has]
 | .agg cs,j=>by simpa [gA,ag.has]using sL σ cs j
 | .box i _,j=>Fx σ i j
 | .own i _ _,j=>Fx σ i j
 | .dr i _ _,j=>Fx σ i j
 | .c0 _ x y,j=>by
   simp only[gA,ag.has]
   rw[sL (ih σ x) y j,sL σ x j]
   cases h1:ag.cC j x<;>cases h2:ag.cC j y<;>simp
   cases σ.aw j<;>rfl
 | .c6 _,j=>by simp[gA,ag.has]
 | .c1,j=>by simp[gA,ag.has]
 | .any,j=>by simp[gA,ag.has]
theorem sL (σ:St):∀(vs:List ag) (j:Nat),(ih σ vs).aw j=bif ag.cC j vs then (σ.aw j).map (fun b=>⟨true,b.ext,b.c⟩)else σ.aw j
 |[],j=>by simp[ih,ag.cC]
 |v::vs,j=>by
  rw[ih,sL (gA σ v) vs j,abF σ v j]
  simp only[ag.cC]
  cases h1:v.has j<;>cases h2:ag.cC j vs<;>simp
  cases σ.aw j<;>rfl
end
mutual
theorem abG (σ:St):∀(v:ag),(gA σ v).af=σ.af
 | .d _=>rfl
 | .agg cs=>by simpa [gA]using xc σ cs
 | .box i _=>rfl
 | .own i _ _=>rfl
 | .dr i _ _=>rfl
 | .c0 _ x y=>by rw[gA,xc (ih σ x) y,xc σ x]
 | .c6 _=>rfl
 | .c1=>rfl
 | .any=>rfl
theorem xc (σ:St):∀(vs:List ag),(ih σ vs).af=σ.af
 |[]=>rfl
 |v::vs=>by rw[ih,xc (gA σ v) vs,abG σ v]
end
mutual
theorem acy {σ:St} :∀(v:ag),ic σ v=true→∀j b,v.has j=true→σ.aw j=some b→b.ext=false
 | .d _,_,_,_,h,_=>by simp[ag.has]at h
 | .agg cs,aB,j,b,h,ar=>qP cs (by simpa [ic]using aB) j b (by simpa [ag.has]using h) ar
 | .box i _,aB,j,b,h,ar=>by
   simp only[ag.has,beq_iff_eq]at h;subst h
   simp only[ic,ar]at aB;simpa using aB
 | .own i _ _,aB,j,b,h,ar=>by
   simp only[ag.has,beq_iff_eq]at h;subst h
   simp only[ic,ar]at aB;simpa using aB
 | .dr i _ _,aB,j,b,h,ar=>by
   simp only[ag.has,beq_iff_eq]at h;subst h
   simp only[ic,ar]at aB;simpa using aB
 | .c0 _ x y,aB,j,b,h,ar=>by
   simp only[ic,Bool.and_eq_true]at aB
   simp only[ag.has,Bool.or_eq_true]at h
   rcases h with h|h
   ·exact qP x aB.1 j b h ar
   ·exact qP y aB.2 j b h ar
 | .c6 _,_,_,_,h,_=>by simp[ag.has]at h
 | .c1,_,_,_,h,_=>by simp[ag.has]at h
 | .any,_,_,_,h,_=>by simp[ag.has]at h
theorem qP {σ:St} :∀(vs:List ag),jL σ vs=true→∀j b,ag.cC j vs=true→σ.aw j=some b→b.ext=false
 |[],_,_,_,h,_=>by simp[ag.cC]at h
 |v::vs,aB,j,b,h,ar=>by
  simp only[jL,Bool.and_eq_true]at aB
  simp only[ag.cC,Bool.or_eq_true]at h
  rcases h with h|h
  ·exact acy v aB.1 j b h ar
  ·exact qP vs aB.2 j b h ar
end
theorem a8.oQ (h:a8 N aK aF R σ a w rd β) {vs:List ag} (aB:jL σ vs=true):a8 N aK aF R (ih σ vs) a w (plus w (hn β vs) rd) β where
 size:=h.size
 defers:=h.defers
 cw:=h.cw
 c4:=fun k o ad=>⟨(h.c4 k o ad).1.to (fun aL v e ar=>by
  by_cases ay:hn β vs aL
  ·obtain⟨i,r,hi,aq,a2⟩:=ay
   exact .inr ⟨i,r,aq,by rw[←ar];exact a2.1.symm⟩
  ·rw[oi ay]at e;exact .inl e) (fun i r hi e=>⟨i,r,hi,e⟩),(h.c4 k o ad).2⟩
 cJ:=oo h.cJ
 dd:=h.dd.trans (jH _ _ _)
 aF:=fun aL v e ar=>by
  by_cases ay:hn β vs aL
  ·obtain⟨i,r,hi,aq,a2⟩:=ay
   obtain⟨b,ah,_,_,fQ,_⟩:=h.box i r aq
   have:=(fQ (qP vs aB i b hi ah)).1
   have:=a2.1
   omega
  ·rw[oi ay]at e;exact h.aF aL v e ar
 dV:=fun i r b hi ah bg aL a2=>by
  rw[sL]at ah
  cases lL:ag.cC i vs with
  |true=>
   rw[lL]at ah
   cases ar:σ.aw i with
   |none=>rw[ar]at ah;cases ah
   |some cR=>rw[ar]at ah;simp only[cond_true,Option.map_some,Option.some.injEq]at ah;subst ah;cases bg
  |false=>
   rw[lL]at ah
   rw[oi]
   ·exact h.dV i r b hi ah bg aL a2
   ·rintro⟨j,ha,az,agw,agx⟩
    by_cases e:j=i
    ·subst e;rw[az]at lL;cases lL
    ·exact h.dS j i ha r e agw hi aL agx a2
 dW:=fun t=>by rw[xc];exact(h.dW t).mono (jH _ _ _)
 box:=fun i r hi=>by
  obtain⟨b,ah,ao,aS,fQ,eH⟩:=h.box i r hi
  have ct:ey w (plus w (hn β vs) rd) β r b.c:=ao.mono (jH _ _ _) (fun _ _ _=>rfl) (fun _ _ v _ u H=>aP.mono (jH _ _ _) v u H)
  rw[sL,ah]
  cases ag.cC i vs
  ·exact⟨b,rfl,ct,aS,fQ,eH⟩
  ·exact⟨⟨true,b.ext,b.c⟩,rfl,ct,aS,fQ,eH⟩
 dP:=fun i b ah hi=>by
  rw[sL]at ah
  cases lL:ag.cC i vs with
  |true=>
   rw[lL]at ah
   cases ar:σ.aw i with
   |none=>rw[ar]at ah;cases ah
   |some cR=>
    rw[ar]at ah;simp only[cond_true,Option.map_some,Option.some.injEq]at ah;subst ah
    exact h.dP i cR ar hi
  |false=>rw[lL]at ah;exact h.dP i b ah hi
 dS:=h.dS
end
end RV
namespace RV
open Go Go.RowKit
section
variable {N:Nat} {aK:dU} {aF:Mem} {R:bC} {σ σ':St} {a:Act} {w:World} {rd:Mem} {β β':bC} {P:Program}
theorem qI {rd:Mem} :∀{ds:List D} {vs:List Value},bI rd ds vs→vs.length=ds.length
 |[],_,H=>by simp only[bI]at H;simp[H]
 |d::ds,_,H=>by
  simp only[bI]at H
  obtain⟨v,us,e,_,h2⟩:=H
  simp[e,qI h2]
theorem su {rd:Mem} :∀{ds:List D} {vs:List Value},bI rd ds vs→bN rd β (ds.map .d) vs
 |[],_,H=>by simpa only[bI,List.map_nil,bN]using H
 |d::ds,_,H=>by
  simp only[bI]at H
  obtain⟨v,us,e,h1,h2⟩:=H
  simp only[List.map_cons,bN]
  exact⟨v,us,e,by simpa only[aP]using h1,su h2⟩
theorem ml {rd:Mem} {d:D} {u:Value} (h:bn rd d u):aP rd β (cX d) u:=by
 cases d<;>simp only[cX,aP]<;>try exact h
 rename_i cs
 simp only[bn]at h
 obtain⟨vs,e,H⟩:=h
 exact⟨vs,e,su H⟩
theorem Mk {rd:Mem} {t:TypeId} {v:Value} {d:D} (h:xn P t v=some d):bn rd d v:=by
 unfold xn at h
 split at h
 ·simp only[Option.some.injEq]at h;subst h;simp only[bn]
 ·simp only[Option.some.injEq]at h;subst h;simp only[bn]
 ·split at h
  ·cases h
  ·rename_i b ar
   simp only[Option.some.injEq]at h;subst h
   simp only[bn]
   exact⟨b,rfl,by simp[fG,ar]⟩
 ·cases ad:lJ P t with
  |none=>rw[ad]at h;cases h
  |some k=>
   rw[ad]at h
   simp only[Option.map_some,Option.some.injEq]at h
   subst h
   cases k<;>simp only[dL.empty,bn,List.length_nil]<;>exact⟨none,0,rfl,Nat.le_refl _,.inl trivial⟩
 ·simp only[Option.some.injEq]at h;subst h;simp only[bn]
 ·simp only[Option.some.injEq]at h;subst h;simp only[bn]
 ·cases h
theorem DV {rd:Mem} :∀{c2:List TypeId} {vs:List Value} {ds:List D},py P c2 vs=some ds→bI rd ds vs
 |[],[],ds,h=>by simp only[py,Option.some.injEq]at h;subst h;simp only[bI]
 |[],_::_,_,h=>by simp[py]at h
 |_::_,[],_,h=>by simp[py]at h
 |t::c2,v::vs,ds,h=>by
  simp only[py]at h
  split at h
  ·rename_i d mH h1 h2
   simp only[Option.some.injEq]at h;subst h
   simp only[bI]
   exact⟨v,vs,rfl,Mk h1,DV h2⟩
  ·cases h
theorem qM (h:a8 N aK aF R σ a w rd β) {t:TypeId} {x:Operand} {l:bk} (ae:kG P t x=some l):aP rd β (σ.aT l) (a.eval x):=by
 unfold kG at ae
 split at ae
 ·simp only[Option.some.injEq]at ae;subst ae;exact h.dW _
 ·simp only[Option.some.injEq]at ae;subst ae
  simp only[St.aT,cX,aP,Act.eval,bn]
  exact⟨#[],#[],rfl,by simp only[bI],by simp only[bI]⟩
 ·rename_i cs
  split at ae
  ·rename_i c2 _
   cases ao:py P c2 cs.toList with
   |none=>rw[ao]at ae;cases ae
   |some ds=>
    rw[ao]at ae
    simp only[Option.map_some,Option.some.injEq]at ae;subst ae
    show aP rd β (cX (.agg ds)) (.agg cs)
    refine ml ?_
    simp only[bn]
    exact⟨cs,rfl,DV ao⟩
  ·cases ae
 ·rename_i v _
  cases ao:xn P t v with
  |none=>rw[ao]at ae;cases ae
  |some d=>
   rw[ao]at ae
   simp only[Option.map_some,Option.some.injEq]at ae;subst ae
   show aP rd β (cX d) v
   exact ml (Mk ao)
 ·cases ae
theorem ef (h:a8 N aK aF R σ a w rd β) {x:Operand} {l:bk} (ae:dz P x=some l):aP rd β (σ.aT l) (a.eval x):=by
 unfold dz at ae
 split at ae
 ·cases ae
 ·cases ae
 ·exact qM h ae
theorem nb (h:a8 N aK aF R σ a w rd β):∀{c2:List TypeId} {xs:List Operand} {ls:List bk},kD P c2 xs=some ls→bN rd β (ch σ ls) (xs.map a.eval)
 |_,[],ls,ae=>by
  cases ‹List TypeId› <;>simp only[kD,Option.some.injEq]at ae<;>subst ae<;>simp only[ch,List.map_nil,bN]
 |[],x::xs,ls,ae=>by simp[kD]at ae
 |t::c2,x::xs,ls,ae=>by
  simp only[kD]at ae
  split at ae
  ·rename_i v vs h1 h2
   simp only[Option.some.injEq]at ae;subst ae
   simp only[ch,List.map_cons,bN]
   exact⟨_,_,rfl,qM h h1,nb h h2⟩
  ·cases ae
theorem fb.sub {m:Mem} {k:IntKind} {b:Nat} :∀{xs:List Int} {o lo:Nat} (n:Nat),fb m k b o xs→fb m k b (o+lo) ((xs.drop lo).take n)
 |[],o,lo,n,_=>by simp[fb]
 |x::xs,o,0,0,_=>by simp[fb]
 |x::xs,o,0,n+1,⟨h1,h2⟩=>by
  have:=fb.sub (lo:=0) n h2
  simp only[List.drop_zero,List.take_succ_cons,Nat.add_zero]at this⊢
  exact⟨h1,this⟩
 |x::xs,o,lo+1,n,⟨_,h2⟩=>by
  have:=fb.sub (lo:=lo) n h2
  simpa [Nat.add_assoc,Nat.add_comm 1 lo]using this
theorem fk.sub {m:Mem} {b:Nat} :∀{xs:List Nat} {o lo:Nat} (n:Nat),fk m b o xs→fk m b (o+lo) ((xs.drop lo).take n)
 |[],o,lo,n,_=>by simp[fk]
 |x::xs,o,0,0,_=>by simp[fk]
 |x::xs,o,0,n+1,⟨h1,h2⟩=>by
  have:=fk.sub (lo:=0) n h2
  simp only[List.drop_zero,List.take_succ_cons,Nat.add_zero]at this⊢
  exact⟨h1,this⟩
 |x::xs,o,lo+1,n,⟨_,h2⟩=>by
  have:=fk.sub (lo:=lo) n h2
  simpa [Nat.add_assoc,Nat.add_comm 1 lo]using this
theorem cD.xE {b:Nat} {S:Addr→Prop} (hm:bT rd w.cell?):∀{ds:List D} {o:Nat},(∀i,o≤i→i<o+ds.length→S (cellAt b i))→cD w rd b o ds→eY (plus w S rd) b o ds
 |[],_,_,_=>by simp only[eY]
 |d::ds,o,ay,⟨⟨u,e,H⟩,et⟩=>by
  simp only[eY]
  exact⟨⟨u,by rw[E1 hm (ay o (by omega) (by simp))];exact e,H.mono (jH _ _ _) d u⟩,cD.xE hm (fun i h1 h2=>ay i (by omega) (by simp;omega)) et⟩
theorem gh.sub {b sz:Nat} :∀{xs:List (List D)} {o lo:Nat} (n:Nat),gh w rd b sz o xs→gh w rd b sz (o+lo*sz) ((xs.drop lo).take n)
 |[],o,lo,n,_=>by simp[gh]
 |x::xs,o,0,0,_=>by simp[gh]
 |x::xs,o,0,n+1,⟨h0,h1,h2⟩=>by
  have:=gh.sub (lo:=0) n h2
  simp only[List.drop_zero,List.take_succ_cons,Nat.zero_mul,Nat.add_zero]at this⊢
  exact⟨h0,h1,this⟩
 |x::xs,o,lo+1,n,⟨_,_,h2⟩=>by
  have:=gh.sub (lo:=lo) n h2
  have e:o+(lo+1)*sz=o+sz+lo*sz:=by rw[Nat.succ_mul];omega
  rw[e]
  simpa using this
theorem gh.OV {b sz:Nat} {S:Addr→Prop} (hm:bT rd w.cell?):∀{rs:List (List D)} {o:Nat},(∀i,o≤i→i<o+rs.length*sz→S (cellAt b i))→gh w rd b sz o rs→fc (plus w S rd) b sz o rs
 |[],_,_,_=>by simp only[fc]
 |r::rs,o,ay,⟨h1,h2,al⟩=>by
  have e:(r::rs).length*sz=sz+rs.length*sz:=by simp[Nat.succ_mul];omega
  rw[e]at ay
  simp only[fc]
  exact⟨h1,h2.xE hm fun i a b=>ay i a (by omega),al.OV hm fun i a b=>ay i (by omega) (by omega)⟩
theorem cA.xE {b:Nat} {S:Addr→Prop} (hm:bT rd w.cell?):∀{cs:List ag} {ds:List D} {o:Nat},lp cs=some ds→(∀i,o≤i→i<o+cs.length→S (cellAt b i))→cA w rd β b o cs→eY (plus w S rd) b o ds
 |[],ds,o,aC,_,_=>by simp only[lp,Option.some.injEq]at aC;subst aC;simp only[eY]
 |c::cs,ds,o,aC,ay,⟨⟨u,e,H⟩,et⟩=>by
  simp only[lp]at aC
  split at aC
  ·rename_i d mH h1 h2
   simp only[Option.some.injEq]at aC;subst aC
   cases c<;>simp only[ag.xB,Option.some.injEq,reduceCtorEq]at h1
   subst h1
   simp only[eY]
   simp only[aP]at H
   exact⟨⟨u,by rw[E1 hm (ay o (by omega) (by simp))];exact e,H.mono (jH _ _ _) _ u⟩,cA.xE hm h2 (fun i h1 h2=>ay i (by omega) (by simp;omega)) et⟩
  ·cases aC
theorem abH (h:a8 N aK aF R σ a w rd β) {i lo n:Nat} {b:b1} (ar:σ.aw i=some b) {d:D} (aC:b.c.part lo n=some d) {u:Value} (hu:aP rd β (.own i lo n) u)
 {S:Addr→Prop} (ay:∀r aL,β i=some r→r.has aL→S aL):bn (plus w S rd) d u:=by
 simp only[aP]at hu
 obtain⟨A,cap,rfl,aH,hA⟩:=hu
 have fin:∀r,β i=some r→A=some (cellAt r.bS (r.off+lo*r.sz))→bn (plus w S rd) d (.slice A n cap):=by
  intro r aq hA
  obtain⟨fD,cK,ao,aS,_⟩:=h.box i r aq
  rw[ar]at cK
  simp only[Option.some.injEq]at cK
  subst cK
  have jy:∀k,r.off≤k→k<r.off+r.len→plus w S rd (cellAt r.bS k)=w.cell? (cellAt r.bS k):=fun k h1 h2=>E1 h.cJ (ay r _ aq ⟨rfl,.inr ⟨h1,h2⟩⟩)
  cases fR:b.c with
  |cells cs=>rw[fR]at aC;simp[BC.part]at aC
  |ints k xs=>
   rw[fR]at aC ao
   simp only[BC.part]at aC
   split at aC
   ·rename_i hle
    simp only[Option.some.injEq]at aC;subst aC
    simp only[bn]
    have aB:((xs.drop lo).take n).length=n:=by simp;omega
    rw[aB]
    refine⟨A,cap,rfl,aH,.inr ⟨_,_,hA,?_⟩⟩
    have:=ao.2.2.sub (lo:=lo) n
    rw[ao.1,Nat.mul_one]
    exact this.cells fun k h1 h2=>jy k (by omega) (by have:=ao.2.1;rw[aB]at h2;omega)
   ·cases aC
  |flts xs=>
   rw[fR]at aC ao
   simp only[BC.part]at aC
   split at aC
   ·rename_i hle
    simp only[Option.some.injEq]at aC;subst aC
    simp only[bn]
    have aB:((xs.drop lo).take n).length=n:=by simp;omega
    rw[aB]
    refine⟨A,cap,rfl,aH,.inr ⟨_,_,hA,?_⟩⟩
    have:=ao.2.2.sub (lo:=lo) n
    rw[ao.1,Nat.mul_one]
    exact this.cells fun k h1 h2=>jy k (by omega) (by have:=ao.2.1;rw[aB]at h2;omega)
   ·cases aC
  |recs sz xs=>
   rw[fR]at aC ao
   simp only[BC.part]at aC
   split at aC
   ·rename_i hle
    simp only[Option.some.injEq]at aC;subst aC
    simp only[bn]
    have aB:((xs.drop lo).take n).length=n:=by simp;omega
    rw[aB]
    refine⟨A,cap,rfl,aH,.inr ⟨_,_,hA,?_⟩⟩
    rw[ao.1]
    have:=ao.2.2.sub (lo:=lo) n
    refine this.OV h.cJ fun k h1 h2=>ay r _ aq ⟨rfl,.inr ⟨by show r.off≤k;omega,?_⟩⟩
    rw[aB]at h2
    have al:lo*sz+n*sz≤xs.length*sz:=by rw[←Nat.add_mul];exact Nat.mul_le_mul_right _ hle
    have:=ao.2.1
    show k<r.off+r.len
    omega
   ·cases aC
 rcases hA with ⟨rfl,rfl⟩|⟨r,aq,hA,_⟩
 ·cases fR:b.c with
  |cells cs=>rw[fR]at aC;simp[BC.part]at aC
  |_=>
   rw[fR]at aC
   simp only[BC.part]at aC
   split at aC
   ·simp only[Option.some.injEq]at aC;subst aC
    simp only[bn,List.take_zero,List.length_nil]
    exact⟨A,0,rfl,Nat.le_refl _,.inl trivial⟩
   ·cases aC
 ·exact fin r aq hA
mutual
theorem toD_rep (h:a8 N aK aF R σ a w rd β) {S:Addr→Prop} :∀(v:ag) (u:Value) (d:D),toD σ v=some d→aP rd β v u→(∀i r aL,v.has i=true→β i=some r→r.has aL→S aL)→bn (plus w S rd) d u
 | .d x,u,d,aC,hu,_=>by
   simp only[toD,Option.some.injEq]at aC;subst aC
   simp only[aP]at hu
   exact hu.mono (jH _ _ _) _ _
 | .agg cs,u,d,aC,hu,ay=>by
   simp only[toD]at aC
   split at aC
   ·rename_i ds fX
    simp only[Option.some.injEq]at aC;subst aC
    simp only[aP]at hu
    obtain⟨vs,rfl,H⟩:=hu
    simp only[bn]
    exact⟨vs,rfl,toDs_rep h cs _ _ fX H fun i r aL hi=>ay i r aL (by simpa only[ag.has]using hi)⟩
   ·cases aC
 | .own i lo n,u,d,aC,hu,ay=>by
   simp only[toD]at aC
   split at aC
   ·rename_i b ar
    exact abH h ar aC hu fun r aL=>ay i r aL (by simp[ag.has])
   ·cases aC
 | .box i off,u,d,aC,hu,ay=>by
   cases off with
   |succ n=>simp[toD]at aC
   |zero=>
    simp only[toD]at aC
    split at aC
    ·rename_i cd ex cs ar
     split at aC
     ·rename_i ds fX
      simp only[Option.some.injEq]at aC;subst aC
      simp only[aP]at hu
      obtain⟨r,aq,rfl⟩:=hu
      obtain⟨fD,cK,ao,aS,_⟩:=h.box i r aq
      rw[ar]at cK
      simp only[Option.some.injEq]at cK
      subst cK
      simp only[bn]
      refine⟨_,_,rfl,?_⟩
      exact cA.xE h.cJ fX (fun k h1 h2=>ay i r _ (by simp[ag.has]) aq ⟨rfl,.inr ⟨h1,by have:=ao.1;show k<r.off+r.len;omega⟩⟩) ao.2
     ·cases aC
    ·cases aC
 | .c0 f x y,u,d,aC,hu,ay=>by
   simp only[toD]at aC
   split at aC
   ·rename_i d1 d2 h1 h2
    simp only[Option.some.injEq]at aC;subst aC
    simp only[aP]at hu
    obtain⟨e8,vc,rfl,H1,et⟩:=hu
    simp only[bn]
    exact⟨e8,vc,rfl,toDs_rep h x _ _ h1 H1 fun i r aL hi=>ay i r aL (by simp[ag.has,hi]),toDs_rep h y _ _ h2 et fun i r aL hi=>ay i r aL (by simp[ag.has,hi])⟩
   ·cases aC
 | .dr _ _ _,_,_,aC,_,_=>by simp[toD]at aC
 | .c6 _,_,_,aC,_,_=>by simp[toD]at aC
 | .c1,_,_,aC,_,_=>by simp[toD]at aC
 | .any,_,_,aC,_,_=>by simp[toD]at aC
theorem toDs_rep (h:a8 N aK aF R σ a w rd β) {S:Addr→Prop} :∀(vs:List ag) (us:List Value) (ds:List D),toDs σ vs=some ds→bN rd β vs us→(∀i r aL,ag.cC i vs=true→β i=some r→r.has aL→S aL)→bI (plus w S rd) ds us
 |[],us,ds,aC,hu,_=>by
  simp only[toDs,Option.some.injEq]at aC;subst aC
  simpa only[bN,bI]using hu
 |v::vs,us,ds,aC,hu,ay=>by
  simp only[toDs]at aC
  split at aC
  ·rename_i d mH h1 h2
   simp only[Option.some.injEq]at aC;subst aC
   simp only[bN]at hu
   obtain⟨u,ki,rfl,H1,et⟩:=hu
   simp only[bI]
   exact⟨u,ki,rfl,toD_rep h v u d h1 H1 fun i r aL hi=>ay i r aL (by simp[ag.cC,hi]),toDs_rep h vs ki mH h2 et fun i r aL hi=>ay i r aL (by simp[ag.cC,hi])⟩
  ·cases aC
end
end
end RV
namespace RV
open Go Go.RowKit
section
variable {N:Nat} {aK:dU} {aF:Mem} {R:bC} {σ σ':St} {a:Act} {w:World} {rd:Mem} {β β':bC} {P:Program} {Γ:Env}
theorem fa {t:TypeId} {d:TypeDesc} (h:P.underlying t=some d) (w:World):(underlying t).run P w= .ok d w:=by
 simp[underlying,h]
theorem Nn {t:TypeId} {i:TypeInfo} (h:P.info? t=some i) (w:World):(typeInfo t).run P w= .ok i w:=by
 simp[typeInfo,h]
theorem jE {t:TypeId} {n:Nat} (h:gk P t=some n) (w:World):(Go.sizeOf t).run P w= .ok n w:=by
 unfold gk at h
 cases hi:P.info? t with
 |none=>rw[hi]at h;cases h
 |some i=>rw[hi]at h;simp at h;subst h;simp[Go.sizeOf,Nn hi]
theorem Eo {t:TypeId} {n:Nat} {g:Bool} (h:lF P t=some (n,g)):gk P t=some n:=by
 unfold lF at h
 unfold gk
 split at h
 ·rename_i hi;simp only[Option.some.injEq,Prod.mk.injEq]at h;rw[hi,←h.1];rfl
 ·rename_i hi;simp only[Option.some.injEq,Prod.mk.injEq]at h;rw[hi,←h.1];rfl
 ·rename_i hi
  split at h
  ·rename_i h1;simp only[Option.some.injEq,Prod.mk.injEq]at h;rw[hi,←h.1];simp[h1]
  ·cases h
 ·cases h
theorem EE {t:TypeId} {n:Nat} (h:lF P t=some (n,false)):n=1:=by
 unfold lF at h
 split at h
 ·simp at h
 ·simp at h
 ·split at h
  ·simp only[Option.some.injEq,Prod.mk.injEq]at h;exact h.1.symm
  ·cases h
 ·cases h
theorem z1 {t:TypeId} {n:Nat} {g:Bool} (h:lF P t=some (n,g)) (w:World):(isAgg t).run P w= .ok g w:=by
 unfold lF at h
 split at h
 ·rename_i hu _;simp only[Option.some.injEq,Prod.mk.injEq]at h;simp[isAgg,fa hu,←h.2]
 ·rename_i hu _;simp only[Option.some.injEq,Prod.mk.injEq]at h;simp[isAgg,fa hu,←h.2]
 ·rename_i d i h1 h2 hu _
  split at h
  ·simp only[Option.some.injEq,Prod.mk.injEq]at h
   have e:=h.2
   cases d<;>first
    |exact(h1 _ rfl).elim
    |exact(h2 _ _ rfl).elim
    |simp[isAgg,fa hu,←e]
  ·cases h
 ·cases h
theorem oh (b o i:Nat):(cellAt b o).add i=cellAt b (o+i):=by
 unfold Addr.add cellAt
 split
 ·rename_i h;simp[h]
 ·rfl
def Yields (P:Program) (N:Nat) (aK:dU) (aF:Mem) (R:bC) (σ:St) (a:Act) (w:World) (β:bC) (s:Sem Value) (K:ag→Prop):Prop:=
 ∃av u w' rd',K av∧a8 N aK aF R σ a w' rd' β∧aP rd' β av u∧s.run P w= .ok u w'
theorem Yields.here {s:Sem Value} {K:ag→Prop} (h:a8 N aK aF R σ a w rd β) {av:ag} {u:Value} (ad:K av) (aq:aP rd β av u) (ay:s.run P w= .ok u w):
 Yields P N aK aF R σ a w β s K:=⟨av,u,w,rd,ad,h,aq,ay⟩
theorem Ly {b:Nat} :∀(n o i:Nat) (acc:Array Value) (us:List Value),us.length=n→(∀j,j<n→w.cell? (cellAt b (o+i+j))=us[j]?)→
 (loadCellsFrom (cellAt b o) i n acc).run P w= .ok (acc++us.toArray) w
 |0,o,i,acc,us,aB,_=>by
  have:us=[]:=List.eq_nil_of_length_eq_zero aB
  subst this
  simp[loadCellsFrom]
 |n+1,o,i,acc,[],aB,_=>by simp at aB
 |n+1,o,i,acc,u::us,aB,ao=>by
  have h0:=ao 0 (by omega)
  simp only[Nat.add_zero,List.getElem?_cons_zero]at h0
  have cm:=Ly n o (i+1) (acc.push u) us (by simpa using aB) (fun j az=>by
   have:=ao (j+1) (by omega)
   rw[List.getElem?_cons_succ]at this
   rw[←this];congr 2;omega)
  simp only[loadCellsFrom,Sem.run_bind,oh,run_load,h0,Result.andThen_ok]
  rw[cm]
  simp
theorem cA.xK {b:Nat} :∀{cs:List ag} {o:Nat},cA w rd β b o cs→∃us:List Value,bN rd β cs us∧us.length=cs.length∧∀j,j<cs.length→w.cell? (cellAt b (o+j))=us[j]?
 |[],_,_=>⟨[],by simp only[bN],rfl,fun j az=>by simp at az⟩
 |c::cs,o,⟨⟨u,e,H⟩,et⟩=>by
  obtain⟨us,h1,h2,al⟩:=cA.xK et
  refine⟨u::us,by simp only[bN];exact⟨u,us,rfl,H,h1⟩,by simp[h2],fun j az=> ?_⟩
  cases j with
  |zero=>simpa using e
  |succ j=>rw[List.getElem?_cons_succ,←al j (by simpa using az)];congr 2;omega
theorem cA.drop {b:Nat} :∀{cs:List ag} {o:Nat} (k:Nat),cA w rd β b o cs→cA w rd β b (o+k) (cs.drop k)
 |cs,o,0,h=>by simpa using h
 |[],o,k+1,_=>by simp[cA]
 |c::cs,o,k+1,⟨_,h⟩=>by
  have:=cA.drop k h
  simpa [Nat.add_assoc,Nat.add_comm 1 k]using this
theorem cA.take {b:Nat} :∀{cs:List ag} {o:Nat} (k:Nat),cA w rd β b o cs→cA w rd β b o (cs.take k)
 |cs,o,0,_=>by simp[cA]
 |[],o,k+1,_=>by simp[cA]
 |c::cs,o,k+1,⟨h0,h⟩=>by
  simp only[List.take_succ_cons,cA]
  exact⟨h0,cA.take k h⟩
theorem cA.get {b:Nat} {cs:List ag} {o k:Nat} (h:cA w rd β b o cs) {v:ag} (aA:cs[k]? =some v):∃u,w.cell? (cellAt b (o+k))=some u∧aP rd β v u:=by
 have ad:k<cs.length:=by
  rcases Nat.lt_or_ge k cs.length with h|h
  ·exact h
  ·rw[List.getElem?_eq_none h]at aA;cases aA
 have h2:=h.drop k
 have e:cs.drop k=v::cs.drop (k+1):=by
  rw[List.drop_eq_getElem_cons ad]
  rw[List.getElem?_eq_getElem ad]at aA
  simp only[Option.some.injEq]at aA
  rw[aA]
 rw[e]at h2
 exact h2.1
theorem zO {t:TypeId} {n:Nat} {g:Bool} (ae:lF P t=some (n,g)) {b o:Nat} {cs:List ag} (h:cA w rd β b o cs) (aB:cs.length=n):
 ∃u,(Instr.loadAt t (.pointer (some (cellAt b o)))).run P w= .ok u w∧(g=true→aP rd β (.agg cs) u)∧(g=false→∀c,cs=[c]→aP rd β c u):=by
 obtain⟨us,h1,h2,al⟩:=h.xK
 cases g with
 |true=>
  refine⟨.agg us.toArray,?_,fun _=>by simp only[aP];exact⟨us.toArray,rfl,by simpa using h1⟩,(fun e=>by cases e)⟩
  have aq:=Ly (P:=P) (w:=w) (b:=b) n o 0 #[] us (by omega) (fun j az=>by simpa using al j (by omega))
  simp only[Instr.loadAt,Instr.sureAddr,loadVar,Sem.run_bind,Sem.run_pure,Result.andThen_ok,z1 ae,if_true,jE (Eo ae),loadCells,aq]
  simp
 |false=>
  have aH:=EE ae
  subst aH
  match cs,us,aB,h1,al with
  |[c],us,_,h1,al=>
   simp only[bN]at h1
   obtain⟨u,ki,rfl,H,rfl⟩:=h1
   refine⟨u,?_,(fun e=>by cases e),fun _ c' ct=>by simp at ct;subst ct;exact H⟩
   have:=al 0 (by simp)
   simp only[Nat.add_zero,List.getElem?_cons_zero]at this
   simp only[Instr.loadAt,Instr.sureAddr,loadVar,Sem.run_bind,Sem.run_pure,Result.andThen_ok,z1 ae,Bool.false_eq_true,if_false,run_load,this]
theorem cA.EF {b:Nat} (hm:bT rd w.cell?):∀{ds:List D} {o:Nat},eY rd b o ds→cA w rd β b o (ds.map .d)
 |[],_,_=>trivial
 |d::ds,o,h=>by
  simp only[eY]at h
  obtain⟨⟨v,e,H⟩,et⟩:=h
  exact⟨⟨v,hm _ _ e,by simpa only[aP]using H⟩,cA.EF hm et⟩
theorem cA.MF {b:Nat} :∀{ds:List D} {o:Nat},cD w rd b o ds→cA w rd β b o (ds.map .d)
 |[],_,_=>trivial
 |d::ds,o,⟨⟨u,e,H⟩,et⟩=>⟨⟨u,e,by simpa only[aP]using H⟩,cA.MF et⟩
theorem fb.getD {m:Mem} {k:IntKind} {b:Nat} :∀{xs:List Int} {o j:Nat},fb m k b o xs→j<xs.length→m (cellAt b (o+j))=some (.int k (xs.getD j 0))
 |x::xs,o,0,⟨h,_⟩,_=>by simpa using h
 |x::xs,o,j+1,⟨_,h⟩,az=>by
  have:=fb.getD (j:=j) h (by simpa using az)
  rw[List.getD_cons_succ,←this];congr 2;omega
theorem fk.getD {m:Mem} {b:Nat} :∀{xs:List Nat} {o j:Nat},fk m b o xs→j<xs.length→∃y,m (cellAt b (o+j))=some (.float .f64 y)∧fG y=xs.getD j 0
 |x::xs,o,0,⟨h,_⟩,_=>by simpa using h
 |x::xs,o,j+1,⟨_,h⟩,az=>by
  obtain⟨y,h1,h2⟩:=fk.getD (j:=j) h (by simpa using az)
  refine⟨y,?_,by rw[List.getD_cons_succ];exact h2⟩
  rw[←h1];congr 2;omega
theorem gh.getD {b sz:Nat} :∀{rs:List (List D)} {o j:Nat},gh w rd b sz o rs→j<rs.length→(rs.getD j []).length=sz∧cD w rd b (o+j*sz) (rs.getD j [])
 |r::rs,o,0,⟨h0,h1,_⟩,_=>by simpa using ⟨h0,h1⟩
 |r::rs,o,j+1,⟨_,_,h⟩,az=>by
  obtain⟨h1,h2⟩:=gh.getD (j:=j) h (by simpa using az)
  rw[List.getD_cons_succ]
  exact⟨h1,by rw[show o+(j+1)*sz=o+sz+j*sz from by rw[Nat.succ_mul];omega];exact h2⟩
theorem ZO {t:TypeId} {n:Nat} {g:Bool} (ae:lF P t=some (n,g)) (h:a8 N aK aF R σ a w rd β) {v:ag} {u:Value} (hu:aP rd β v u) {K:ag→Prop} (ad:iA σ n g v K):
 Yields P N aK aF R σ a w β (Instr.loadAt t u) K:=by
 have one:∀{b o:Nat} {c:ag},g=false→K c→cA w rd β b o [c]→Yields P N aK aF R σ a w β (Instr.loadAt t (.pointer (some (cellAt b o)))) K:=by
  intro b o c bb ao H
  subst bb
  obtain⟨x,h1,_,h2⟩:=zO ae H (by rw[EE ae];rfl)
  exact Yields.here h ao (h2 rfl c rfl) h1
 have many:∀{b o:Nat} {cs:List ag},g=true→K (.agg cs)→cs.length=n→cA w rd β b o cs→Yields P N aK aF R σ a w β (Instr.loadAt t (.pointer (some (cellAt b o)))) K:=by
  intro b o cs bb ao aB H
  subst bb
  obtain⟨x,h1,h2,_⟩:=zO ae H aB
  exact Yields.here h ao (h2 rfl) h1
 unfold iA at ad
 split at ad
 ·rename_i cs
  simp only[aP,bn]at hu
  obtain⟨b,o,rfl,H⟩:=hu
  have H:=cA.EF (β:=β) h.cJ H
  cases bb:g with
  |true=>
   rw[bb]at ad
   simp only[if_true]at ad
   have et:=H.take n
   rw[←List.map_take]at et
   exact many bb ad.2 (by simp;omega) et
  |false=>
   rw[bb]at ad
   simp only[Bool.false_eq_true,if_false]at ad
   cases cs with
   |nil=>exact ad.elim
   |cons d ds=>exact one bb ad ⟨H.1,trivial⟩
 ·rename_i i off
  simp only[aP]at hu
  obtain⟨r,aq,rfl⟩:=hu
  split at ad
  ·rename_i cd ex cs ar
   obtain⟨fD,cK,ao,aS,_⟩:=h.box i r aq
   rw[ar]at cK
   simp only[Option.some.injEq]at cK
   subst cK
   cases bb:g with
   |true=>
    rw[bb]at ad
    simp only[if_true]at ad
    exact many bb ad.2 (by simp;omega) ((ao.2.drop off).take n)
   |false=>
    rw[bb]at ad
    simp only[Bool.false_eq_true,if_false]at ad
    split at ad
    ·rename_i v aA
     obtain⟨x,h1,h2⟩:=ao.2.get aA
     exact one bb ad ⟨⟨x,h1,h2⟩,trivial⟩
    ·exact ad.elim
  ·exact ad.elim
 ·rename_i i j off
  simp only[aP]at hu
  obtain⟨r,aq,rfl⟩:=hu
  obtain⟨fD,cK,ao,aS,_⟩:=h.box i r aq
  split at ad
  ·rename_i cd ex k xs ar
   rw[ar]at cK
   simp only[Option.some.injEq]at cK
   subst cK
   obtain⟨rfl,bb,az,ad⟩:=ad
   refine one bb ad ⟨⟨.int k (xs.getD j 0),?_,by simp only[aP,bn]⟩,trivial⟩
   have:=ao.2.2.getD az
   rw[ao.1];simpa using this
  ·rename_i cd ex xs ar
   rw[ar]at cK
   simp only[Option.some.injEq]at cK
   subst cK
   obtain⟨rfl,bb,az,ad⟩:=ad
   obtain⟨y,h1,h2⟩:=ao.2.2.getD az
   refine one bb ad ⟨⟨.float .f64 y,?_,by simp only[aP,bn];exact⟨y,rfl,h2⟩⟩,trivial⟩
   rw[ao.1];simpa using h1
  ·rename_i cd ex sz xs ar
   rw[ar]at cK
   simp only[Option.some.injEq]at cK
   subst cK
   obtain⟨az,ad⟩:=ad
   obtain⟨aB,aC⟩:=ao.2.2.getD az
   have H:=cA.MF (β:=β) aC
   rw[ao.1]
   cases bb:g with
   |true=>
    rw[bb]at ad
    simp only[if_true]at ad
    have et:=(H.drop off).take n
    rw[←List.map_drop,←List.map_take]at et
    exact many bb ad.2 (by rw[List.length_map,List.length_take,List.length_drop];omega) et
   |false=>
    rw[bb]at ad
    simp only[Bool.false_eq_true,if_false]at ad
    split at ad
    ·rename_i d mI
     obtain⟨x,h1,h2⟩:=H.get (k:=off) (v:= .d d) (by rw[List.getElem?_map,mI];rfl)
     exact one bb ad ⟨⟨x,h1,h2⟩,trivial⟩
    ·exact ad.elim
  ·exact ad.elim
 ·exact ad.elim
end
end RV
namespace RV
open Go Go.RowKit
theorem Ml:(Ieee.double.read xH).isNaN=true:=by decide
theorem wL {b:Nat} (h:(Ieee.double.read b).isNaN=true):fG b=xH:=by simp[fG,h]
theorem zP {b:Nat} (h:(Ieee.double.read b).isNaN=false):fG b=b:=by simp[fG,h]
theorem LK (b:Nat):(Ieee.double.read (fG b)).isNaN=(Ieee.double.read b).isNaN:=by
 cases h:(Ieee.double.read b).isNaN
 ·rw[zP h,h]
 ·rw[wL h,Ml]
theorem po {d:Ieee.Datum} (h:d.isNaN=true):∃s t,d= .nan s t:=by
 cases d<;>simp[Ieee.Datum.isNaN]at h;exact⟨_,_,rfl⟩
theorem MG {d e:Ieee.Datum} (h:d.isNaN=true):d.sum e=none:=by obtain⟨s,t,rfl⟩:=po h;rfl
theorem MH {d e:Ieee.Datum} (h:e.isNaN=true):d.sum e=none:=by obtain⟨s,t,rfl⟩:=po h;cases d<;>rfl
theorem aae {d e:Ieee.Datum} (h:d.isNaN=true):d.product e=none:=by obtain⟨s,t,rfl⟩:=po h;rfl
theorem aaf {d e:Ieee.Datum} (h:e.isNaN=true):d.product e=none:=by obtain⟨s,t,rfl⟩:=po h;cases d<;>rfl
theorem aag {n:Nat} {d e:Ieee.Datum} (h:d.isNaN=true):d.quotient n e=none:=by obtain⟨s,t,rfl⟩:=po h;rfl
theorem aah {n:Nat} {d e:Ieee.Datum} (h:e.isNaN=true):d.quotient n e=none:=by obtain⟨s,t,rfl⟩:=po h;cases d<;>rfl
theorem ZP {d e:Ieee.Datum} (h:d.isNaN=true):d.order e=none:=by obtain⟨s,t,rfl⟩:=po h;rfl
theorem ZQ {d e:Ieee.Datum} (h:e.isNaN=true):d.order e=none:=by obtain⟨s,t,rfl⟩:=po h;cases d<;>rfl
theorem acz {d:Ieee.Datum} (h:d.isNaN=true):d.opposite.isNaN=true:=by obtain⟨s,t,rfl⟩:=po h;rfl
theorem xp {α:Type} (f:Ieee.Datum→Ieee.Datum→Option α) (aB:∀d e,d.isNaN=true→f d e=none) (aq:∀d e,e.isNaN=true→f d e=none) (x y:Nat):
 f (Ieee.double.read (fG x)) (Ieee.double.read (fG y))=f (Ieee.double.read x) (Ieee.double.read y):=by
 cases ah:(Ieee.double.read x).isNaN
 ·cases hy:(Ieee.double.read y).isNaN
  ·rw[zP ah,zP hy]
  ·rw[aq _ _ hy,aq _ _ (by rw[LK];exact hy)]
 ·rw[aB _ _ ah,aB _ _ (by rw[LK];exact ah)]
theorem aaT (x y:Nat):Ieee.double.add (fG x) (fG y)=Ieee.double.add x y:=
 xp (fun d e=>(d.sum e).map Ieee.double.write) (fun _ _ h=>by simp[MG h]) (fun _ _ h=>by simp[MH h]) x y
theorem aaU (x y:Nat):Ieee.double.sub (fG x) (fG y)=Ieee.double.sub x y:=
 xp (fun d e=>(d.sum e.opposite).map Ieee.double.write) (fun _ _ h=>by simp[MG h]) (fun _ _ h=>by simp[MH (acz h)]) x y
theorem aaV (x y:Nat):Ieee.double.mul (fG x) (fG y)=Ieee.double.mul x y:=
 xp (fun d e=>(d.product e).map Ieee.double.write) (fun _ _ h=>by simp[aae h]) (fun _ _ h=>by simp[aaf h]) x y
theorem aaW (x y:Nat):Ieee.double.div (fG x) (fG y)=Ieee.double.div x y:=
 xp (fun d e=>(d.quotient 54 e).map Ieee.double.write) (fun _ _ h=>by simp[aag h]) (fun _ _ h=>by simp[aah h]) x y
theorem ZR (x y:Nat):Ieee.double.order (fG x) (fG y)=Ieee.double.order x y:=
 xp (fun d e=>d.order e) (fun _ _ h=>ZP h) (fun _ _ h=>ZQ h) x y
theorem LX {b:Nat} (h:9218868437227405312<b % 9223372036854775808):(Ieee.double.read b).isNaN=true:=by
 have a1:Ieee.double.signWeight=9223372036854775808:=by decide
 have a6:Ieee.double.infRung=9218868437227405312:=by decide
 have cU:Ieee.double.binade=4503599627370496:=by decide
 unfold Ieee.Format.read
 simp only[a1,a6,cU]
 rw[if_neg (by omega),if_neg (by omega),if_neg (by omega)]
 rfl
theorem ZS {b:Nat} (h:(Ieee.double.read b).isNaN=true):9218868437227405312<b % 9223372036854775808:=by
 have a1:Ieee.double.signWeight=9223372036854775808:=by decide
 have a6:Ieee.double.infRung=9218868437227405312:=by decide
 have cU:Ieee.double.binade=4503599627370496:=by decide
 unfold Ieee.Format.read at h
 simp only[a1,a6,cU]at h
 split at h
 ·simp[Ieee.Datum.isNaN]at h
 ·split at h
  ·simp[Ieee.Datum.isNaN]at h
  ·split at h
   ·simp[Ieee.Datum.isNaN]at h
   ·omega
theorem aaX (t:Nat):(Ieee.double.read ((t % 2)*2^63+0x7ff0000000000000+1+(t / 2) % (2^52 - 1))).isNaN=true:=by
 refine LX ?_
 have:=Nat.mod_lt (t / 2) (show 0<2^52 - 1 by decide)
 have:=Nat.mod_lt t (show 0<2 by decide)
 generalize t % 2=x at*
 generalize (t / 2) % (2^52 - 1)=y at*
 have ah:x=0∨x=1:=by omega
 rcases ah with rfl|rfl<;>omega
theorem aaY (b:Nat):fG (Op.negFloat .f64 b)=Bm (fG b):=by
 unfold Bm
 cases h:(Ieee.double.read b).isNaN
 ·rw[zP h]
 ·rw[wL h]
  have key:∀c,(Ieee.double.read c).isNaN=true→(Ieee.double.read (Op.negFloat .f64 c)).isNaN=true:=by
   intro c ao
   refine LX ?_
   have h1:=ZS ao
   have e:Op.negFloat .f64 c=c^^^2^63:=rfl
   rw[e,show (9223372036854775808:Nat)=2^63 by decide,Nat.xor_mod_two_pow,Nat.mod_self,Nat.xor_zero]
   exact h1
  rw[wL (key b h),wL (key xH Ml)]
section
variable {N:Nat} {aK:dU} {aF:Mem} {R:bC} {σ σ':St} {a:Act} {w:World} {rd:Mem} {β β':bC} {P:Program} {Γ:Env}
theorem Yields.int {s:Sem Value} {K:ag→Prop} (h:a8 N aK aF R σ a w rd β) {k:IntKind} {n:Int} (ad:K (.d (.int k n))) (ay:s.run P w= .ok (.int k n) w):Yields P N aK aF R σ a w β s K:=
 Yields.here h ad (by simp only[aP,bn]) ay
theorem Yields.bool {s:Sem Value} {K:ag→Prop} (h:a8 N aK aF R σ a w rd β) {b:Bool} (ad:K (.d (.bool b))) (ay:s.run P w= .ok (.bool b) w):Yields P N aK aF R σ a w β s K:=
 Yields.here h ad (by simp only[aP,bn]) ay
theorem sx {k:IntKind} {z:Int} {K:ag→Prop} (h:a8 N aK aF R σ a w rd β) (ad:arith k z K) {s:Sem Value} (ay:s.run P w= .ok (.int k (k.wrap z)) w):
 Yields P N aK aF R σ a w β s K:=by
 unfold arith at ad
 split at ad
 ·rw[IntWalk.i64_in z ad.1]at ay
  exact Yields.int h ad.2 ay
 ·exact Yields.int h ad ay
theorem ZT {op:BinOp} {t:TypeId} {k dM:IntKind} {x y:Int} {K:ag→Prop} (h:a8 N aK aF R σ a w rd β) (kj:k=dM∨op= .shl∨op= .shr) (ad:s4 op k x y K):
 Yields P N aK aF R σ a w β (binOp op t (.int k x) (.int dM y)) K:=by
 cases op<;>simp only[reduceCtorEq,or_false,or_self,or_true]at kj<;>(try subst kj)<;>simp only[s4]at ad
 case add=>exact sx h ad (by simp[binOp,Op.intArith])
 case sub=>exact sx h ad (by simp[binOp,Op.intArith])
 case mul=>exact sx h ad (by simp[binOp,Op.intArith])
 case quo=>exact sx h ad.2 (by simp[binOp,Op.intDiv,ad.1])
 case rem=>exact Yields.int h ad.2 (by simp[binOp,Op.intDiv,ad.1])
 case and=>exact Yields.int h ad (by simp[binOp,Op.intBits,ji])
 case or=>exact Yields.int h ad (by simp[binOp,Op.intBits,ya])
 case xor=>exact Yields.int h ad (by simp[binOp,Op.intBits,Sj])
 case andNot=>exact Yields.int h ad (by simp[binOp,Op.intBits,OU])
 case shl=>exact sx h ad.2 (by simp[binOp,Op.shift,show¬y<0 by omega])
 case shr=>exact Yields.int h ad.2 (by simp[binOp,Op.shift,show¬y<0 by omega])
 case eql=>exact Yields.bool h ad (by simp[binOp,Op.intCmp])
 case neq=>exact Yields.bool h ad (by simp[binOp,Op.intCmp])
 case lss=>exact Yields.bool h ad (by simp[binOp,Op.intCmp])
 case leq=>exact Yields.bool h ad (by simp[binOp,Op.intCmp])
 case gtr=>exact Yields.bool h ad (by simp[binOp,Op.intCmp])
 case geq=>exact Yields.bool h ad (by simp[binOp,Op.intCmp])
theorem a8.drew (h:a8 N aK aF R σ a w rd β):a8 N aK aF R σ a w.drew rd β:=
 h.more (Below.refl _ _).drew (bT.refl _) (fun a v e=>h.cJ a v e) (fun _ _ e _=>e)
def uJ (P:Program) (x y:Nat) (r:Option Nat) (w:World):Result Value:=
 match r with
 |some r=> .ok (.float .f64 r) w
 |none=>((choose (.nanBits .f64 x y)).run P w).andThen fun n w=> .ok (.float .f64 n) w
theorem zA {op:BinOp} {x y:Nat} {r:Option Nat} {K:ag→Prop} (h:a8 N aK aF R σ a w rd β) (ad:K (.d (.flt (oP r))))
 (ay:∀w,(Op.floatArith op .f64 x y).run P w=uJ P x y r w):
 Yields P N aK aF R σ a w β (Op.floatArith op .f64 x y) K:=by
 cases r with
 |some r=>exact Yields.here h ad (by simp only[aP,bn];exact⟨r,rfl,rfl⟩) (ay w)
 |none=>
  refine⟨.d (.flt (oP none)),.float .f64 ((Question.nanBits .f64 x y).cut (w.tape w.drawn (.nanBits .f64 x y))),w.drew,rd,ad,h.drew,?_,?_⟩
  ·simp only[aP,bn,Question.cut]
   exact⟨_,rfl,by rw[wL (aaX _)];rfl⟩
  ·rw[ay]
   simp only[uJ,run_choose,Question.forced]
   rfl
theorem ZU {op:BinOp} {t:TypeId} {x y dg eh:Nat} {K:ag→Prop} (h:a8 N aK aF R σ a w rd β) (ah:fG dg=x) (hy:fG eh=y) (ad:s5 op x y K):
 Yields P N aK aF R σ a w β (binOp op t (.float .f64 dg) (.float .f64 eh)) K:=by
 subst ah hy
 have cmp:∀{c:Bool},K (.d (.bool c))→(Op.floatCmp op .f64 dg eh).run P w= .ok (.bool c) w→binOp op t (.float .f64 dg) (.float .f64 eh)=Op.floatCmp op .f64 dg eh→
  Yields P N aK aF R σ a w β (binOp op t (.float .f64 dg) (.float .f64 eh)) K:=by
  intro c h1 h2 al
  rw[al]
  exact Yields.bool h h1 h2
 have bh:=ZR dg eh
 cases op<;>simp only[s5]at ad
 case add=>
  have bY:K (.d (.flt (oP (Ieee.double.add dg eh)))):=by unfold Sk at ad;rw[aaT]at ad;exact ad
  show Yields P N aK aF R σ a w β (Op.floatArith .add .f64 dg eh) K
  refine zA (r:=Ieee.double.add dg eh) h bY (fun w=> ?_)
  simp only[Op.floatArith,FloatKind.format]
  cases Ieee.double.add dg eh<;>simp[uJ]
 case sub=>
  have bY:K (.d (.flt (oP (Ieee.double.sub dg eh)))):=by unfold Sl at ad;rw[aaU]at ad;exact ad
  show Yields P N aK aF R σ a w β (Op.floatArith .sub .f64 dg eh) K
  refine zA (r:=Ieee.double.sub dg eh) h bY (fun w=> ?_)
  simp only[Op.floatArith,FloatKind.format]
  cases Ieee.double.sub dg eh<;>simp[uJ]
 case mul=>
  have bY:K (.d (.flt (oP (Ieee.double.mul dg eh)))):=by unfold Sm at ad;rw[aaV]at ad;exact ad
  show Yields P N aK aF R σ a w β (Op.floatArith .mul .f64 dg eh) K
  refine zA (r:=Ieee.double.mul dg eh) h bY (fun w=> ?_)
  simp only[Op.floatArith,FloatKind.format]
  cases Ieee.double.mul dg eh<;>simp[uJ]
 case quo=>
  have bY:K (.d (.flt (oP (Ieee.double.div dg eh)))):=by unfold fdiv at ad;rw[aaW]at ad;exact ad
  show Yields P N aK aF R σ a w β (Op.floatArith .quo .f64 dg eh) K
  refine zA (r:=Ieee.double.div dg eh) h bY (fun w=> ?_)
  simp only[Op.floatArith,FloatKind.format]
  cases Ieee.double.div dg eh<;>simp[uJ]
 case eql=>exact cmp ad (by unfold B5;rw[bh];simp[Op.floatCmp,FloatKind.format]) rfl
 case neq=>exact cmp ad (by unfold B5;rw[bh];simp[Op.floatCmp,FloatKind.format,bne]) rfl
 case lss=>exact cmp ad (by unfold flt;rw[bh];simp[Op.floatCmp,FloatKind.format]) rfl
 case leq=>exact cmp ad (by unfold Ud;rw[bh];simp[Op.floatCmp,FloatKind.format]) rfl
 case gtr=>exact cmp ad (by unfold Ue;rw[bh];simp[Op.floatCmp,FloatKind.format]) rfl
 case geq=>exact cmp ad (by unfold Uf;rw[bh];simp[Op.floatCmp,FloatKind.format]) rfl
end
end RV
namespace RV
open Go Go.RowKit
section
variable {N:Nat} {aK:dU} {aF:Mem} {R:bC} {σ σ':St} {a:Act} {w:World} {rd:Mem} {β β':bC} {P:Program} {Γ:Env}
theorem fc.getD {m:Mem} {b sz:Nat} :∀{rs:List (List D)} {o j:Nat},fc m b sz o rs→j<rs.length→eY m b (o+j*sz) (rs.getD j [])
 |r::rs,o,0,h,_=>by simp only[fc]at h;simpa using h.2.1
 |r::rs,o,j+1,h,az=>by
  simp only[fc]at h
  have:=fc.getD (j:=j) h.2.2 (by simpa using az)
  rw[List.getD_cons_succ]
  rw[show o+(j+1)*sz=o+sz+j*sz from by rw[Nat.succ_mul];omega];exact this
theorem fc.sub {m:Mem} {b sz:Nat} :∀{xs:List (List D)} {o lo:Nat} (n:Nat),fc m b sz o xs→fc m b sz (o+lo*sz) ((xs.drop lo).take n)
 |[],o,lo,n,_=>by simp[fc]
 |x::xs,o,0,0,_=>by simp[fc]
 |x::xs,o,0,n+1,h=>by
  simp only[fc]at h
  have:=fc.sub (lo:=0) n h.2.2
  simp only[List.drop_zero,List.take_succ_cons,Nat.zero_mul,Nat.add_zero,fc]at this⊢
  exact⟨h.1,h.2.1,this⟩
 |x::xs,o,lo+1,n,h=>by
  simp only[fc]at h
  have:=fc.sub (lo:=lo) n h.2.2
  have e:o+(lo+1)*sz=o+sz+lo*sz:=by rw[Nat.succ_mul];omega
  rw[e]
  simpa using this
theorem eY.drop {m:Mem} {b:Nat} :∀{ds:List D} {o:Nat} (k:Nat),eY m b o ds→eY m b (o+k) (ds.drop k)
 |ds,o,0,h=>by simpa using h
 |[],o,k+1,_=>by simp[eY]
 |d::ds,o,k+1,h=>by
  simp only[eY]at h
  have:=eY.drop k h.2
  simpa [Nat.add_assoc,Nat.add_comm 1 k]using this
theorem zG {t e:TypeId} {n:Nat} (hu:P.underlying t=some (.slice e)) (ay:gk P e=some n) {k:IntKind} {i:Int} {b o len cap:Nat} (h0:0≤i) (h1:i<len):
 (Instr.indexAt t (.slice (some (cellAt b o)) len cap) (.int k i)).run P w= .ok (.pointer (some (cellAt b (o+i.toNat*n)))) w:=by
 simp[Instr.indexAt,asIntOf,fa hu,h0,h1,jE ay,oh]
theorem ZD {t e:TypeId} {n:Nat} (hu:P.underlying t=some (.slice e)) (ay:gk P e=some n) (h:a8 N aK aF R σ a w rd β) {v:ag} {u:Value} (aA:aP rd β v u)
 {k:IntKind} {i:Int} {K:ag→Prop} (ad:ov σ n v i K):Yields P N aK aF R σ a w β (Instr.indexAt t u (.int k i)) K:=by
 unfold ov at ad
 split at ad
 ·rename_i dM xs
  obtain⟨rfl,h0,h1,ad⟩:=ad
  simp only[aP,bn]at aA
  obtain⟨A,cap,rfl,_,hA⟩:=aA
  rcases hA with rfl|⟨b,o,rfl,H⟩
  ·simp at h1;omega
  ·refine Yields.here h ad ?_ (zG hu ay h0 h1)
   simp only[aP,bn,eY]
   exact⟨b,_,rfl,⟨_,by rw[Nat.mul_one];exact H.getD (by omega),rfl⟩,trivial⟩
 ·rename_i xs
  obtain⟨rfl,h0,h1,ad⟩:=ad
  simp only[aP,bn]at aA
  obtain⟨A,cap,rfl,_,hA⟩:=aA
  rcases hA with rfl|⟨b,o,rfl,H⟩
  ·simp at h1;omega
  ·refine Yields.here h ad ?_ (zG hu ay h0 h1)
   simp only[aP,bn,eY]
   obtain⟨y,h2,al⟩:=H.getD (j:=i.toNat) (by omega)
   exact⟨b,_,rfl,⟨_,by rw[Nat.mul_one];exact h2,y,rfl,al⟩,trivial⟩
 ·rename_i z xs
  obtain⟨rfl,h0,h1,ad⟩:=ad
  simp only[aP,bn]at aA
  obtain⟨A,cap,rfl,_,hA⟩:=aA
  rcases hA with rfl|⟨b,o,rfl,H⟩
  ·simp at h1;omega
  ·refine Yields.here h ad ?_ (zG hu ay h0 h1)
   simp only[aP,bn]
   exact⟨b,_,rfl,H.getD (by omega)⟩
 ·rename_i j lo m
  obtain⟨eN,h0,h1,ad⟩:=ad
  simp only[aP]at aA
  obtain⟨A,cap,rfl,aH,hA⟩:=aA
  rcases hA with ⟨rfl,_⟩|⟨r,aq,rfl,_⟩
  ·omega
  ·obtain⟨fD,cK,ao,_⟩:=h.box j r aq
   refine Yields.here h ad ?_ (zG hu ay h0 h1)
   have e7:r.sz=n:=by
    rw[cK]at eN
    cases fD with
    |mk f e c=>cases c<;>simp only[jM,Option.some.injEq,reduceCtorEq]at eN<;>(rw[←eN];exact ao.1)
   simp only[aP]
   exact⟨r,aq,by rw[e7,Nat.add_zero,Nat.add_mul,Nat.add_assoc]⟩
 ·exact ad.elim
def F9 (d n:Int):Option Value→Prop
 |none=>n=d
 |some x=>∃k,x= .int k n
def xq (rd:Mem) (β:bC):Option ag→Option Value→Prop
 |none,none=>True
 |some v,some x=>aP rd β v x
 |_,_=>False
theorem qJ {x:Option Value} {d:Int} {K:Int→Prop} {v:Option ag} (aA:xq rd β v x) (ad:bound d v K):
 ∃n,K n∧F9 d n x:=by
 unfold bound at ad
 split at ad
 ·cases x with
  |none=>exact⟨d,ad,rfl⟩
  |some x=>exact aA.elim
 ·rename_i k n
  cases x with
  |none=>exact aA.elim
  |some x=>simp only[xq,aP,bn]at aA;exact⟨n,ad,k,aA⟩
 ·exact ad.elim
theorem zH {t e:TypeId} {n:Nat} (hu:P.underlying t=some (.slice e)) (ay:gk P e=some n) {A:Option Addr} {len cap:Nat} {lo hi:Option Value} {l h:Int}
 (aB:F9 0 l lo) (dZ:F9 len h hi) (h0:0≤l) (h1:l≤h) (h2:h≤len) (al:len≤cap):
 (Instr.sliceAt t (.slice A len cap) lo hi none).run P w= .ok (.slice (if cap=l.toNat then A else A.map (·.add (l.toNat*n))) (h.toNat - l.toNat) (cap - l.toNat)) w:=by
 have ar:∀{x:Value} {k:IntKind} {i:Int} {y:Nat} {c:BoundsCode},x= .int k i→0≤i→i≤y→(Instr.sliceBound x y c).run P w= .ok i.toNat w:=by
  intro x k i y c ah h0 h1
  subst ah
  simp[Instr.sliceBound,asIntOf,h0,h1]
 have vy:(Instr.sliceBounds true len cap lo hi none).run P w= .ok (l.toNat,h.toNat,cap) w:=by
  cases lo with
  |none=>
   have aB:l=0:=aB
   subst aB
   cases hi with
   |none=>
    have dZ:h=len:=dZ
    subst dZ;simp[Instr.sliceBounds]
   |some x=>
    obtain⟨k,ah⟩:=dZ
    simp[Instr.sliceBounds,ar ah (by omega:0≤h) (by omega:h≤(cap:Int))]
  |some x=>
   obtain⟨k,ah⟩:=aB
   cases hi with
   |none=>
    have dZ:h=len:=dZ
    subst dZ;simp[Instr.sliceBounds,ar ah h0 h1]
   |some dg=>
    obtain⟨dM,vz⟩:=dZ
    simp[Instr.sliceBounds,ar vz (by omega:0≤h) (by omega:h≤(cap:Int)),ar ah h0 (by omega:l≤((h.toNat:Nat):Int))]
 simp[Instr.sliceAt,Instr.slice,fa hu,vy,jE ay]
theorem aai {t e:TypeId} {n:Nat} (hu:P.underlying t=some (.slice e)) (ay:gk P e=some n) (h:a8 N aK aF R σ a w rd β) {v:ag} {u:Value} (aA:aP rd β v u)
 {lo hi:Option ag} {YI YJ:Option Value} (jm:xq rd β lo YI)
 (lM:xq rd β hi YJ) {K:ag→Prop} (ad:lD σ n v lo hi K):
 Yields P N aK aF R σ a w β (Instr.sliceAt t u YI YJ none) K:=by
 unfold lD at ad
 split at ad
 ·rename_i k xs
  simp only[aP,bn]at aA
  obtain⟨A,cap,rfl,mx,hA⟩:=aA
  obtain⟨l,ad,aB⟩:=qJ jm ad
  obtain⟨m,ad,hm⟩:=qJ lM ad
  obtain⟨rfl,h0,h1,h2,ad⟩:=ad
  have hlen:((xs.take m.toNat).drop l.toNat).length=m.toNat - l.toNat:=by simp;omega
  refine Yields.here h ad ?_ (zH hu ay aB hm h0 h1 h2 mx)
  simp only[aP,bn,hlen]
  refine⟨_,_,rfl,by omega,?_⟩
  rcases hA with rfl|⟨b,o,rfl,H⟩
  ·left;simp
  ·by_cases ao:cap=l.toNat
   ·left;exact List.eq_nil_of_length_eq_zero (by omega)
   ·right
    refine⟨b,o+l.toNat,by rw[if_neg ao];simp[oh],?_⟩
    have:=H.sub (lo:=l.toNat) (m.toNat - l.toNat)
    rwa [←List.drop_take]at this
 ·rename_i xs
  simp only[aP,bn]at aA
  obtain⟨A,cap,rfl,mx,hA⟩:=aA
  obtain⟨l,ad,aB⟩:=qJ jm ad
  obtain⟨m,ad,hm⟩:=qJ lM ad
  obtain⟨rfl,h0,h1,h2,ad⟩:=ad
  have hlen:((xs.take m.toNat).drop l.toNat).length=m.toNat - l.toNat:=by simp;omega
  refine Yields.here h ad ?_ (zH hu ay aB hm h0 h1 h2 mx)
  simp only[aP,bn,hlen]
  refine⟨_,_,rfl,by omega,?_⟩
  rcases hA with rfl|⟨b,o,rfl,H⟩
  ·left;simp
  ·by_cases ao:cap=l.toNat
   ·left;exact List.eq_nil_of_length_eq_zero (by omega)
   ·right
    refine⟨b,o+l.toNat,by rw[if_neg ao];simp[oh],?_⟩
    have:=H.sub (lo:=l.toNat) (m.toNat - l.toNat)
    rwa [←List.drop_take]at this
 ·rename_i z xs
  simp only[aP,bn]at aA
  obtain⟨A,cap,rfl,mx,hA⟩:=aA
  obtain⟨l,ad,aB⟩:=qJ jm ad
  obtain⟨m,ad,hm⟩:=qJ lM ad
  obtain⟨rfl,h0,h1,h2,ad⟩:=ad
  have hlen:((xs.take m.toNat).drop l.toNat).length=m.toNat - l.toNat:=by simp;omega
  refine Yields.here h ad ?_ (zH hu ay aB hm h0 h1 h2 mx)
  simp only[aP,bn,hlen]
  refine⟨_,_,rfl,by omega,?_⟩
  rcases hA with rfl|⟨b,o,rfl,H⟩
  ·left;simp
  ·by_cases ao:cap=l.toNat
   ·left;exact List.eq_nil_of_length_eq_zero (by omega)
   ·right
    refine⟨b,o+l.toNat*n,by rw[if_neg ao];simp[oh],?_⟩
    have:=H.sub (lo:=l.toNat) (m.toNat - l.toNat)
    rwa [←List.drop_take]at this
 ·rename_i j o len
  simp only[aP]at aA
  obtain⟨A,cap,rfl,mx,hA⟩:=aA
  obtain⟨l,ad,aB⟩:=qJ jm ad
  obtain⟨m,ad,hm⟩:=qJ lM ad
  obtain⟨eN,h0,h1,h2,ad⟩:=ad
  refine Yields.here h ad ?_ (zH hu ay aB hm h0 h1 h2 mx)
  simp only[aP]
  refine⟨_,_,rfl,by omega,?_⟩
  rcases hA with ⟨rfl,rfl⟩|⟨r,aq,rfl,yb⟩
  ·left;omega
  ·by_cases ao:cap=l.toNat
   ·left;omega
   ·right
    obtain⟨fD,cK,ct,_⟩:=h.box j r aq
    have e7:r.sz=n:=by
     rw[cK]at eN
     cases fD with
     |mk f e c=>cases c<;>simp only[jM,Option.some.injEq,reduceCtorEq]at eN<;>(rw[←eN];exact ct.1)
    refine⟨r,aq,by rw[if_neg ao];simp[oh,e7,Nat.add_mul,Nat.add_assoc],fun hw=> ?_⟩
    have:=yb hw
    rw[Nat.add_mul,Nat.sub_mul]
    have:l.toNat*r.sz≤cap*r.sz:=Nat.mul_le_mul_right _ (by omega)
    omega
 ·exact ad.elim
end
end RV
namespace RV
open Go Go.RowKit
section
variable {N:Nat} {aK:dU} {aF:Mem} {R:bC} {σ σ':St} {a:Act} {w:World} {rd:Mem} {β β':bC} {P:Program} {Γ:Env}
theorem qF:∀{cs:List ag} {vs:List Value},bN rd β cs vs→vs.length=cs.length
 |[],_,H=>by simp only[bN]at H;simp[H]
 |d::ds,_,H=>by
  simp only[bN]at H
  obtain⟨v,us,e,_,h2⟩:=H
  simp[e,qF h2]
theorem pj:∀{cs ds:List ag} {vs us:List Value},bN rd β cs vs→bN rd β ds us→bN rd β (cs++ds) (vs++us)
 |[],ds,vs,us,h,k=>by simp only[bN]at h;simpa [h]using k
 |c::cs,ds,vs,us,h,k=>by
  simp only[bN,List.cons_append]at*
  obtain⟨v,oR,rfl,h1,h2⟩:=h
  exact⟨v,oR++us,rfl,h1,pj h2 k⟩
theorem DW:∀{cs:List ag} {vs:List Value} (n:Nat),bN rd β cs vs→bN rd β (cs.take n) (vs.take n)
 |_,_,0,_=>by simp[bN]
 |[],vs,n+1,h=>by simp only[bN]at h;simp[h,bN]
 |c::cs,vs,n+1,h=>by
  simp only[bN,List.take_succ_cons]at*
  obtain⟨v,oR,rfl,h1,h2⟩:=h
  exact⟨v,oR.take n,by simp,h1,DW n h2⟩
theorem DX:∀{cs:List ag} {vs:List Value} (n:Nat),bN rd β cs vs→bN rd β (cs.drop n) (vs.drop n)
 |_,_,0,h=>by simpa using h
 |[],vs,n+1,h=>by simp only[bN]at h;simp[h,bN]
 |c::cs,vs,n+1,h=>by
  simp only[bN]at h
  obtain⟨v,oR,rfl,h1,h2⟩:=h
  simpa using DX n h2
theorem D8:∀{cs:List ag} {vs:List Value} {k:Nat} {c:ag},bN rd β cs vs→cs[k]? =some c→∃v,vs[k]? =some v∧aP rd β c v
 |c::cs,vs,0,c',h,ao=>by
  simp only[bN]at h
  obtain⟨v,oR,rfl,h1,h2⟩:=h
  simp at ao;subst ao
  exact⟨v,rfl,h1⟩
 |c::cs,vs,k+1,c',h,ao=>by
  simp only[bN]at h
  obtain⟨v,oR,rfl,h1,h2⟩:=h
  have ct:cs[k]? =some c':=by simpa using ao
  obtain⟨x,al,aE⟩:=D8 h2 ct
  exact⟨x,by simpa using al,aE⟩
theorem Mm {c:ag} {u:Value} (ay:c.dq=true) (h:aP rd β c u):u.cells= #[u]∧u.oneCell'=true:=by
 cases c with
 |d x=>
  cases x<;>simp only[ag.dq,Bool.false_eq_true]at ay<;>simp only[aP,bn]at h
  case bool=>subst h;exact⟨rfl,rfl⟩
  case int=>subst h;exact⟨rfl,rfl⟩
  case flt=>obtain⟨y,rfl,_⟩:=h;exact⟨rfl,rfl⟩
  case ints=>obtain⟨_,_,rfl,_⟩:=h;exact⟨rfl,rfl⟩
  case flts=>obtain⟨_,_,rfl,_⟩:=h;exact⟨rfl,rfl⟩
  case recs=>obtain⟨_,_,rfl,_⟩:=h;exact⟨rfl,rfl⟩
  case ptr=>obtain⟨_,_,rfl,_⟩:=h;exact⟨rfl,rfl⟩
  case fn=>obtain⟨_,_,rfl,_⟩:=h;exact⟨rfl,rfl⟩
  case nilfn=>subst h;exact⟨rfl,rfl⟩
  case nilp=>subst h;exact⟨rfl,rfl⟩
 |agg cs=>simp[ag.dq]at ay
 |box i o=>simp only[aP]at h;obtain⟨_,_,rfl⟩:=h;exact⟨rfl,rfl⟩
 |own i o n=>simp only[aP]at h;obtain⟨_,_,rfl,_⟩:=h;exact⟨rfl,rfl⟩
 |dr i j o=>simp only[aP]at h;obtain⟨_,_,rfl⟩:=h;exact⟨rfl,rfl⟩
 |c0 f x y=>simp only[aP]at h;obtain⟨_,_,rfl,_⟩:=h;exact⟨rfl,rfl⟩
 |c6 l=>simp[ag.dq]at ay
 |c1=>simp[ag.dq]at ay
 |any=>simp[ag.dq]at ay
theorem Ep {c:ag} {u:Value} (ay:c.cells.all ag.dq=true) (h:aP rd β c u):bN rd β c.cells u.cells.toList:=by
 cases ao:c with
 |agg cs=>
  subst ao
  simp only[aP]at h
  obtain⟨vs,rfl,H⟩:=h
  exact H
 |_=>
  rw[←ao]
  have e:c.cells=[c]:=by subst ao;rfl
  rw[e]at ay⊢
  rw[(Mm (by simpa using ay) h).1]
  simp only[bN]
  exact⟨u,[],rfl,h,rfl⟩
theorem Ad:∀{cs:List ag} {us:List Value},cs.all ag.dq=true→bN rd β cs us→∀u∈us,u.oneCell'=true
 |[],us,_,h=>by simp only[bN]at h;simp[h]
 |c::cs,us,ay,h=>by
  simp only[bN]at h
  obtain⟨v,ki,rfl,h1,h2⟩:=h
  simp only[List.all_cons,Bool.and_eq_true]at ay
  intro u hu
  simp only[List.mem_cons]at hu
  rcases hu with rfl|hu
  ·exact(Mm ay.1 h1).2
  ·exact Ad ay.2 h2 u hu
theorem Er:∀(vs:List Value) (cs:Array Value) (off k:Nat),off+k+vs.length≤cs.size→
 ((vs.zipIdx k).foldl (fun cs (x:Value×Nat)=>cs.setIfInBounds (off+x.2) x.1) cs).toList=cs.toList.take (off+k)++vs++cs.toList.drop (off+k+vs.length)
 |[],cs,off,k,_=>by simp
 |v::vs,cs,off,k,h=>by
  simp only[List.length_cons]at h
  simp only[List.zipIdx_cons,List.foldl_cons]
  rw[Er vs _ off (k+1) (by simp;omega)]
  simp only[Array.toList_setIfInBounds,List.length_cons]
  have aB:off+k<cs.toList.length:=by simp;omega
  have a1:(cs.toList.set (off+k) v).take (off+(k+1))=cs.toList.take (off+k)++[v]:=by
   rw[show off+(k+1)=off+k+1 by omega,List.take_succ_eq_append_getElem (by simpa using aB),List.take_set_of_le (Nat.le_refl _)]
   simp
  have a6:(cs.toList.set (off+k) v).drop (off+(k+1)+vs.length)=cs.toList.drop (off+k+(vs.length+1)):=by
   rw[List.drop_set_of_lt (by omega)];congr 1;omega
  rw[a1,a6];simp
def E2 (rd:Mem) (β:bC) (place:Nat→Option (Nat×Nat)):List (Nat×Nat×ag)→List (Nat×Value)→Prop
 |[],[]=>True
 |p::ps,q::ze=>(place q.1=some (p.1,p.2.1)∧aP rd β p.2.2 q.2)∧E2 rd β place ps ze
 |_,_=>False
theorem EG {place:Nat→Option (Nat×Nat)} :∀{parts:List (Nat×Nat×ag)} {Fy:List (Nat×Value)} {zero cs:List ag} {zs:Array Value},
 E2 rd β place parts Fy→
 bN rd β zero zs.toList→oB zero parts=some cs→∃arr,Instr.fill place zs Fy=some arr∧bN rd β cs arr.toList
 |[],_::_,_,_,_,aS,_,_=>aS.elim
 |[],[],zero,cs,zs,aS,bg,hf=>by
  simp only[oB,Option.some.injEq]at hf;subst hf
  exact⟨zs,rfl,bg⟩
 |_::_,[],_,_,_,aS,_,_=>aS.elim
 |(off,size,v)::parts,q::Fy,zero,cs,zs,aS,bg,hf=>by
  obtain⟨⟨al,aE⟩,h2⟩:=aS
  simp only[oB]at hf
  split at hf
  ·rename_i ao
   obtain⟨bB,cu,eU⟩:=ao
   have Uh:=Ep eU aE
   have aB:=qF Uh
   have HM:=qF bg
   have aZ:q.2.cells.size=size:=by simpa [bB]using aB
   simp only[Array.length_toList]at aB HM
   have Bn:=Er q.2.cells.toList zs off 0 (by simp;omega)
   obtain⟨arr,aI,aM⟩:=EG (zs:=q.2.cells.zipIdx.foldl (fun cs (c,j)=>cs.setIfInBounds (off+j) c) zs) h2 (by
    rw[←Array.foldl_toList,Array.toList_zipIdx,Bn]
    simp only[Nat.add_zero,Array.length_toList,aZ]
    exact pj (pj (DW _ bg) Uh) (DX _ bg)) hf
   refine⟨arr,?_,aM⟩
   simp only[Instr.fill,al]
   rw[if_neg (by simp[aZ];omega)]
   exact aI
  ·cases hf
theorem zB {t:TypeId} {z:List D} (h:sR P t=some z):∃i v,P.info? t=some i∧i.zero=some v∧bI rd z v.cells.toList:=by
 unfold sR at h
 split at h
 ·rename_i v c2 aA _
  cases hi:P.info? t with
  |none=>rw[hi]at aA;cases aA
  |some i=>rw[hi]at aA;exact⟨i,v,rfl,aA,DV h⟩
 ·cases h
theorem wY {t:TypeId} {i:TypeInfo} {v:Value} (h:P.info? t=some i) (aA:i.zero=some v) (w:World):(zeroValue t).run P w= .ok v w:=by
 simp[zeroValue,Nn h,aA]
theorem LY {α gX:Type} {f:α→Sem gX} {g:α→gX} :∀(l:List α),(∀x∈l,∀w,(f x).run P w= .ok (g x) w)→∀w,(l.mapM f).run P w= .ok (l.map g) w
 |[],_,w=>by simp
 |x::l,h,w=>by
  simp only[List.mapM_cons,Sem.run_bind,h x (by simp),Result.andThen_ok,LY l (fun y hy=>h y (by simp[hy])),Sem.run_pure,List.map_cons]
theorem LL:∀{fs:List Field} {pl:List (Nat×Nat×TypeId)},xa P fs=some pl→
 (∀f∈fs,∃n,gk P f.type=some n)∧pl=fs.map fun f=>(f.offset,(gk P f.type).getD 0,f.type)
 |[],pl,h=>by simp only[xa,Option.some.injEq]at h;subst h;simp
 |f::fs,pl,h=>by
  simp only[xa]at h
  split at h
  ·rename_i n ps h1 h2
   simp only[Option.some.injEq]at h;subst h
   obtain⟨al,aE⟩:=LL h2
   refine⟨fun g bb=> ?_,by simp[h1,aE]⟩
   simp only[List.mem_cons]at bb
   rcases bb with rfl|bb
   ·exact⟨n,h1⟩
   ·exact al g bb
  ·cases h
theorem DK (h:a8 N aK aF R σ a w rd β) {pl:List (Nat×Nat×TypeId)} {place:Nat→Option (Nat×Nat)} (rv:∀i x,pl[i]? =some x→place i=some (x.1,x.2.1)):
 ∀{parts:List (Nat×Operand)} {ps:List (Nat×Nat×bk)},qK P pl parts=some ps→
 E2 rd β place (ps.map fun p=>(p.1,p.2.1,σ.aT p.2.2)) (parts.map fun(i,x)=>(i,a.eval x))
 |[],ps,ae=>by simp only[qK,Option.some.injEq]at ae;subst ae;exact trivial
 |(i,x)::parts,ps,ae=>by
  simp only[qK]at ae
  split at ae
  ·rename_i off size t B7 h1 h2
   split at ae
   ·rename_i v aA
    simp only[Option.some.injEq]at ae;subst ae
    simp only[List.map_cons]
    exact⟨⟨rv i _ h1,qM h aA⟩,DK h rv h2⟩
   ·cases ae
  ·cases ae
theorem ZE (h:a8 N aK aF R σ a w rd β) {t:TypeId} {parts:Array (Nat×Operand)} {l:bo} (ae:ns P t parts=some l) {K:ag→Prop} (ad:bj Γ σ K l):
 Yields P N aK aF R σ a w β (Instr.build t (parts.map fun(i,x)=>(i,a.eval x))) K:=by
 unfold ns at ae
 split at ae
 ·rename_i fs z hu bg
  split at ae
  ·rename_i pl rv
   cases aS:qK P pl parts.toList with
   |none=>rw[aS]at ae;cases ae
   |some ps=>
    rw[aS]at ae
    simp only[Option.map_some,Option.some.injEq]at ae;subst ae
    simp only[bj]at ad
    split at ad
    ·rename_i cs eO
     obtain⟨i,v,hi,aA,vA⟩:=zB (rd:=rd) bg
     obtain⟨tx,tz⟩:=LL rv
     have acA:(fs.mapM fun f=>do pure (f.offset,←Go.sizeOf f.type):Sem (Array (Nat×Nat))).run P w= .ok (fs.map fun f=>(f.offset,(gk P f.type).getD 0)) w:=by
      rw[Array.mapM_eq_mapM_toList]
      simp only[Sem.run_map]
      rw[LY (g:=fun f=>(f.offset,(gk P f.type).getD 0)) fs.toList (fun f hf w=>by
       obtain⟨n,aH⟩:=tx f hf
       simp[jE aH,aH])]
      simp only[Result.andThen_ok]
      rw[←Array.toList_map]
     obtain⟨arr,h1,h2⟩:=EG (zs:=v.cells) (DK h (place:=fun i=>(fs.map fun f=>(f.offset,(gk P f.type).getD 0))[i]?) (fun i x ah=>by
      rw[tz]at ah
      simp only[List.getElem?_map]at ah
      cases hf:fs.toList[i]? with
      |none=>rw[hf]at ah;cases ah
      |some f=>
       rw[hf]at ah
       simp only[Option.map_some,Option.some.injEq]at ah;subst ah
       have vB:fs[i]? =some f:=by simpa using hf
       simp[vB]) aS) (su vA) eO
     refine Yields.here h ad (u:= .agg arr) (by simp only[aP];exact⟨arr,rfl,h2⟩) ?_
     simp only[Instr.build,Sem.run_bind,wY hi aA,Result.andThen_ok,fa hu,acA]
     have:(parts.map fun(i,x)=>(i,a.eval x)).toList=parts.toList.map fun(i,x)=>(i,a.eval x):=by simp
     rw[this,h1]
     simp
    ·exact ad.elim
  ·cases ae
 ·rename_i len e z hu bg
  split at ae
  ·rename_i n aH
   cases aS:qK P ((List.range len).map fun i=>(i*n,n,e)) parts.toList with
   |none=>rw[aS]at ae;cases ae
   |some ps=>
    rw[aS]at ae
    simp only[Option.map_some,Option.some.injEq]at ae;subst ae
    simp only[bj]at ad
    split at ad
    ·rename_i cs eO
     obtain⟨i,v,hi,aA,vA⟩:=zB (rd:=rd) bg
     obtain⟨arr,h1,h2⟩:=EG (zs:=v.cells) (DK h (place:=fun i=>some (i*n,n)) (fun i x ah=>by
      simp only[List.getElem?_map]at ah
      cases hf:(List.range len)[i]? with
      |none=>rw[hf]at ah;cases ah
      |some j=>
       rw[hf]at ah
       simp only[Option.map_some,Option.some.injEq]at ah;subst ah
       have:j=i:=by
        have:=List.getElem?_eq_some_iff.1 hf
        obtain⟨bp,h⟩:=this
        simpa using h.symm
       simp[this]) aS) (su vA) eO
     refine Yields.here h ad (u:= .agg arr) (by simp only[aP];exact⟨arr,rfl,h2⟩) ?_
     simp only[Instr.build,Sem.run_bind,wY hi aA,Result.andThen_ok,fa hu,jE aH]
     have:(parts.map fun(i,x)=>(i,a.eval x)).toList=parts.toList.map fun(i,x)=>(i,a.eval x):=by simp
     rw[this,h1]
     simp
    ·exact ad.elim
  ·cases ae
 ·cases ae
end
end RV
namespace RV
open Go Go.RowKit
section
variable {N:Nat} {aK:dU} {aF:Mem} {R:bC} {σ σ':St} {a:Act} {w:World} {rd:Mem} {β β':bC} {P:Program} {Γ:Env}
def kb (us:List Value):List Value:=us.flatMap fun u=>u.cells.toList
theorem LZ {size:Nat} :∀(us:List Value) (k:Nat) (zs:Array Value),(∀u∈us,u.cells.size=size)→(k+us.length)*size≤zs.size→
 ∃arr,Instr.fill (fun i=>some (i*size,size)) zs ((us.zipIdx k).map fun x=>(x.2,x.1))=some arr∧arr.toList=zs.toList.take (k*size)++kb us++zs.toList.drop ((k+us.length)*size)
 |[],k,zs,_,_=>⟨zs,rfl,by simp[kb]⟩
 |u::us,k,zs,hu,bg=>by
  have h0:=hu u (by simp)
  simp only[List.length_cons]at bg
  have cF:(k+(us.length+1))*size=k*size+size+us.length*size:=by rw[Nat.add_mul,Nat.add_mul];omega
  rw[cF]at bg
  have Bn:=Er u.cells.toList zs (k*size) 0 (by simp;omega)
  obtain⟨arr,h1,h2⟩:=LZ us (k+1) (u.cells.zipIdx.foldl (fun cs (c,j)=>cs.setIfInBounds (k*size+j) c) zs) (fun v aA=>hu v (by simp[aA])) (by
   have:(u.cells.zipIdx.foldl (fun cs (c,j)=>cs.setIfInBounds (k*size+j) c) zs).toList.length=zs.size:=by
    rw[←Array.foldl_toList,Array.toList_zipIdx,Bn];simp;omega
   rw[Array.length_toList]at this
   rw[this,show (k+1+us.length)*size=k*size+size+us.length*size by rw[Nat.add_mul,Nat.add_mul];omega]
   exact bg)
  refine⟨arr,?_,?_⟩
  ·simp only[List.zipIdx_cons,List.map_cons,Instr.fill]
   rw[if_neg (by simp[h0];omega)]
   exact h1
  ·rw[h2,←Array.foldl_toList,Array.toList_zipIdx,Bn]
   simp only[Nat.add_zero,Array.length_toList,h0]
   have c8:(zs.toList.take (k*size)++u.cells.toList).length=(k+1)*size:=by
    simp[h0,Nat.succ_mul];omega
   rw[List.take_append_of_le_length (by omega),List.take_of_length_le (by omega)]
   rw[show (k+1+us.length)*size=(zs.toList.take (k*size)++u.cells.toList).length+us.length*size by rw[c8,←Nat.add_mul]]
   rw[List.drop_length_add_append]
   simp only[List.drop_drop,kb,List.flatMap_cons,List.length_cons,cF]
   simp
theorem DN {k:IntKind} {rd m:Mem} {b:Nat} :∀{ds:List D} {us:List Value} {xs:List Int} {o:Nat},lq k ds=some xs→bI rd ds us→
 (∀u∈us,u.cells.size=1)∧xs.length=us.length∧((∀j v,(kb us)[j]? =some v→m (cellAt b (o+j))=some v)→fb m k b o xs)
 |[],us,xs,o,h,aq=>by
  simp only[lq,Option.some.injEq]at h;subst h
  simp only[bI]at aq;subst aq
  simp[fb]
 |d::ds,us,xs,o,h,aq=>by
  simp only[bI]at aq
  obtain⟨u,ki,rfl,h1,h2⟩:=aq
  cases d<;>simp only[lq,reduceCtorEq]at h
  split at h
  ·rename_i dM n ad
   subst ad
   cases a2:lq dM ds with
   |none=>rw[a2]at h;cases h
   |some ax=>
    rw[a2]at h
    simp only[Option.map_some,Option.some.injEq]at h;subst h
    simp only[bn]at h1;subst h1
    obtain⟨i1,i2,i3⟩:=DN (o:=o+1) a2 h2 (m:=m) (b:=b)
    refine⟨fun v aA=> ?_,by simp[i2],fun hm=>⟨hm 0 _ (by simp[kb,Value.cells]),i3 fun j v az=> ?_⟩⟩
    ·simp only[List.mem_cons]at aA
     rcases aA with rfl|aA
     ·rfl
     ·exact i1 v aA
    ·have:=hm (j+1) v (by simpa [kb,Value.cells]using az)
     rw[show o+1+j=o+(j+1)by omega];exact this
  ·cases h
theorem DP {rd m:Mem} {b:Nat} :∀{ds:List D} {us:List Value} {xs:List Nat} {o:Nat},lr ds=some xs→bI rd ds us→
 (∀u∈us,u.cells.size=1)∧xs.length=us.length∧((∀j v,(kb us)[j]? =some v→m (cellAt b (o+j))=some v)→fk m b o xs)
 |[],us,xs,o,h,aq=>by
  simp only[lr,Option.some.injEq]at h;subst h
  simp only[bI]at aq;subst aq
  simp[fk]
 |d::ds,us,xs,o,h,aq=>by
  simp only[bI]at aq
  obtain⟨u,ki,rfl,h1,h2⟩:=aq
  cases d<;>simp only[lr,reduceCtorEq]at h
  rename_i n
  cases a2:lr ds with
  |none=>rw[a2]at h;cases h
  |some ax=>
   rw[a2]at h
   simp only[Option.map_some,Option.some.injEq]at h;subst h
   simp only[bn]at h1
   obtain⟨y,rfl,hy⟩:=h1
   obtain⟨i1,i2,i3⟩:=DP (o:=o+1) a2 h2 (m:=m) (b:=b)
   refine⟨fun v aA=> ?_,by simp[i2],fun hm=>⟨⟨y,hm 0 _ (by simp[kb,Value.cells]),hy⟩,i3 fun j v az=> ?_⟩⟩
   ·simp only[List.mem_cons]at aA
    rcases aA with rfl|aA
    ·rfl
    ·exact i1 v aA
   ·have:=hm (j+1) v (by simpa [kb,Value.cells]using az)
    rw[show o+1+j=o+(j+1)by omega];exact this
theorem eY.of {rd m:Mem} (hm:bT rd m) {b:Nat} :∀{ds:List D} {vs:List Value} {o:Nat},bI rd ds vs→(∀j v,vs[j]? =some v→m (cellAt b (o+j))=some v)→eY m b o ds
 |[],_,_,_,_=>by simp only[eY]
 |d::ds,vs,o,h,ao=>by
  simp only[bI]at h
  obtain⟨v,us,rfl,h1,h2⟩:=h
  simp only[eY]
  refine⟨⟨v,ao 0 v rfl,h1.mono hm _ _⟩,eY.of hm h2 fun j u az=> ?_⟩
  have:=ao (j+1) u (by simpa using az)
  rw[show o+1+j=o+(j+1)by omega];exact this
theorem DQ {sz:Nat} {rd m:Mem} (hle:bT rd m) {b:Nat} :∀{ds:List D} {us:List Value} {xs:List (List D)} {o:Nat},ia sz ds=some xs→bI rd ds us→
 (∀u∈us,u.cells.size=sz)∧xs.length=us.length∧((∀j v,(kb us)[j]? =some v→m (cellAt b (o+j))=some v)→fc m b sz o xs)
 |[],us,xs,o,h,aq=>by
  simp only[ia,Option.some.injEq]at h;subst h
  simp only[bI]at aq;subst aq
  simp[fc]
 |d::ds,us,xs,o,h,aq=>by
  simp only[bI]at aq
  obtain⟨u,ki,rfl,h1,h2⟩:=aq
  have key:∃r ax,xs=r::ax∧ia sz ds=some ax∧r.length=sz∧bI rd r u.cells.toList:=by
   have other:(∀cs,d≠ .agg cs)→∃r ax,xs=r::ax∧ia sz ds=some ax∧r.length=sz∧bI rd r u.cells.toList:=by
    intro aC
    have dT:(if sz=1 then (ia sz ds).map ([d]:: ·)else none)=some xs:=by
     cases d<;>simp only[ia]at h<;>first|exact h|exact absurd rfl (aC _)
    split at dT
    ·rename_i ay
     cases a2:ia sz ds with
     |none=>rw[a2]at dT;cases dT
     |some ax=>
      rw[a2]at dT
      simp only[Option.map_some,Option.some.injEq]at dT
      refine⟨[d],ax,dT.symm,rfl,ay.symm,?_⟩
      have:u.cells.toList=[u]:=by
       cases d<;>simp only[bn]at h1<;>first
        |exact absurd rfl (aC _)
        |(subst h1;rfl)
        |(obtain⟨_,rfl,_⟩:=h1;rfl)
        |(obtain⟨_,_,rfl,_⟩:=h1;rfl)
      rw[this]
      simp only[bI]
      exact⟨u,[],rfl,h1,rfl⟩
    ·cases dT
   cases aC:d with
   |agg cs=>
    subst aC
    simp only[ia]at h
    split at h
    ·rename_i ay
     cases a2:ia sz ds with
     |none=>rw[a2]at h;cases h
     |some ax=>
      rw[a2]at h
      simp only[Option.map_some,Option.some.injEq]at h
      simp only[bn]at h1
      obtain⟨vs,rfl,H⟩:=h1
      exact⟨cs,ax,h.symm,rfl,ay,H⟩
    ·cases h
   |_=>exact other (by intro cs;rw[aC];simp)
  obtain⟨r,ax,rfl,a2,aB,ry⟩:=key
  have eN:u.cells.size=sz:=by have:=qI ry;simpa [aB]using this
  obtain⟨i1,i2,i3⟩:=DQ hle (o:=o+sz) a2 h2 (m:=m) (b:=b)
  refine⟨fun v aA=> ?_,by simp[i2],fun hm=> ?_⟩
  ·simp only[List.mem_cons]at aA
   rcases aA with rfl|aA
   ·exact eN
   ·exact i1 v aA
  ·simp only[fc]
   refine⟨aB,eY.of hle ry fun j v az=>hm j v ?_,i3 fun j v az=> ?_⟩
   ·simp only[kb,List.flatMap_cons]
    rw[List.getElem?_append_left]
    ·exact az
    ·rcases Nat.lt_or_ge j u.cells.toList.length with dT|dT
     ·exact dT
     ·rw[List.getElem?_eq_none dT]at az;cases az
   ·have:=hm (sz+j) v (by
     simp only[kb,List.flatMap_cons]
     rw[List.getElem?_append_right (by simp[eN])]
     simpa [eN,kb]using az)
    rw[show o+sz+j=o+(sz+j)by omega];exact this
theorem L0 {ek:dL} {rd m:Mem} (hle:bT rd m) {ds:List D} {d:D} {us:List Value} (h:asSlice ek ds=some d) (aq:bI rd ds us):
 (∀u∈us,u.cells.size=ek.sz)∧∀b,(∀j v,(kb us)[j]? =some v→m (cellAt b j)=some v)→bn m d (.slice (some (cellAt b 0)) us.length us.length):=by
 cases ek with
 |ints k=>
  simp only[asSlice]at h
  cases a2:lq k ds with
  |none=>rw[a2]at h;cases h
  |some xs=>
   rw[a2]at h
   simp only[Option.map_some,Option.some.injEq]at h;subst h
   obtain⟨h1,h2,_⟩:=DN (m:=m) (b:=0) (o:=0) a2 aq
   refine⟨h1,fun b ar=> ?_⟩
   obtain⟨_,_,al⟩:=DN (m:=m) (b:=b) (o:=0) a2 aq
   simp only[bn]
   exact⟨_,_,by rw[h2],by omega,.inr ⟨b,0,rfl,al fun j v az=>by rw[Nat.zero_add];exact ar j v az⟩⟩
 |flts=>
  simp only[asSlice]at h
  cases a2:lr ds with
  |none=>rw[a2]at h;cases h
  |some xs=>
   rw[a2]at h
   simp only[Option.map_some,Option.some.injEq]at h;subst h
   obtain⟨h1,h2,_⟩:=DP (m:=m) (b:=0) (o:=0) a2 aq
   refine⟨h1,fun b ar=> ?_⟩
   obtain⟨_,_,al⟩:=DP (m:=m) (b:=b) (o:=0) a2 aq
   simp only[bn]
   exact⟨_,_,by rw[h2],by omega,.inr ⟨b,0,rfl,al fun j v az=>by rw[Nat.zero_add];exact ar j v az⟩⟩
 |recs sz=>
  simp only[asSlice]at h
  cases a2:ia sz ds with
  |none=>rw[a2]at h;cases h
  |some xs=>
   rw[a2]at h
   simp only[Option.map_some,Option.some.injEq]at h;subst h
   obtain⟨h1,h2,_⟩:=DQ hle (m:=m) (b:=0) (o:=0) a2 aq
   refine⟨h1,fun b ar=> ?_⟩
   obtain⟨_,_,al⟩:=DQ hle (m:=m) (b:=b) (o:=0) a2 aq
   simp only[bn]
   exact⟨_,_,by rw[h2],by omega,.inr ⟨b,0,rfl,al fun j v az=>by rw[Nat.zero_add];exact ar j v az⟩⟩
mutual
theorem abI:∀(v:ag),v.pure=true→∀j,v.has j=false
 | .d _,_,_=>by simp[ag.has]
 | .agg cs,h,j=>by simpa [ag.has]using uF cs (by simpa [ag.pure]using h) j
 | .box _ _,h,_=>by simp[ag.pure]at h
 | .own _ _ _,h,_=>by simp[ag.pure]at h
 | .dr _ _ _,h,_=>by simp[ag.pure]at h
 | .c0 _ x y,h,j=>by
   simp only[ag.pure,Bool.and_eq_true]at h
   simp[ag.has,uF x h.1 j,uF y h.2 j]
 | .c6 _,h,_=>by simp[ag.pure]at h
 | .c1,h,_=>by simp[ag.pure]at h
 | .any,h,_=>by simp[ag.pure]at h
theorem uF:∀(vs:List ag),ag.fO vs=true→∀j,ag.cC j vs=false
 |[],_,_=>by simp[ag.cC]
 |v::vs,h,j=>by
  simp only[ag.fO,Bool.and_eq_true]at h
  simp[ag.cC,abI v h.1 j,uF vs h.2 j]
end
theorem aaj (w:World) (rd:Mem):bT (plus w (fun _=>False) rd) rd:=fun a v h=>by rwa [oi (by simp)]at h
theorem uG (h:a8 N aK aF R σ a w rd β) {vs:List ag} {us:List Value} {ds:List D} (aS:ag.fO vs=true) (aC:toDs σ vs=some ds) (aq:bN rd β vs us):bI rd ds us:=
 (toDs_rep h (S:=fun _=>False) vs us ds aC aq fun i r aL hi=>by rw[uF vs aS i]at hi;cases hi).mono (aaj w rd) _ _
theorem L1:∀{parts:List (Nat×Operand)} {n k:Nat},uO n parts k=true→n=k+parts.length∧(parts.map fun(i,x)=>(i,a.eval x))=((parts.map fun x=>a.eval x.2).zipIdx k).map fun x=>(x.2,x.1)
 |[],n,k,h=>by simp only[uO,beq_iff_eq]at h;simp[h]
 |(j,x)::parts,n,k,h=>by
  simp only[uO,Bool.and_eq_true,beq_iff_eq]at h
  obtain⟨h1,h2⟩:=L1 h.2
  refine⟨by simp;omega,?_⟩
  simp only[List.map_cons,List.zipIdx_cons,h2,h.1]
theorem wG {e:TypeId} {ek:dL} (h:mm P e=some ek):gk P e=some ek.sz∧0<ek.sz:=by
 unfold mm at h
 split at h<;>simp only[Option.some.injEq,reduceCtorEq]at h<;>subst h<;>refine⟨by assumption,by simp[dL.sz]⟩
theorem aak (h:a8 N aK aF R σ a w rd β) {t e:TypeId} {ek:dL} {len:Nat} {parts:Array (Nat×Operand)} (hu:P.underlying t=some (.slice e)) (jn:mm P e=some ek)
 (agy:uO len parts.toList 0=true) (eN:len*ek.sz≤16777216) (bg:((P.info? e).bind (·.zero)).isSome=true) {ls:List bk}
 (HN:kD P (parts.toList.map fun _=>e) (parts.toList.map (·.2))=some ls) {K:ag→Prop} (ad:bj Γ σ K (.hM ek ls)):
 Yields P N aK aF R σ a w β (Instr.buildSlice t len (parts.map fun(i,x)=>(i,a.eval x))) K:=by
 simp only[bj]at ad
 obtain⟨aS,ad⟩:=ad
 split at ad
 ·rename_i ds fX
  split at ad
  ·rename_i d aC
   have aq:=nb h HN
   have rz:=uG h aS fX aq
   obtain⟨hlen,nH⟩:=L1 (a:=a) agy
   obtain⟨p3,xL⟩:=wG jn
   cases hi:P.info? e with
   |none=>rw[hi]at bg;cases bg
   |some i=>
    rw[hi]at bg
    cases aA:i.zero with
    |none=>simp[aA]at bg
    |some z=>
     simp only[Nat.zero_add]at hlen
     have B8:(parts.toList.map (·.2)).map a.eval=parts.toList.map fun x=>a.eval x.2:=by rw[List.map_map];rfl
     rw[B8]at rz
     obtain⟨h1,_⟩:=L0 (bT.refl _) aC rz
     obtain⟨arr,al,aE⟩:=LZ (parts.toList.map fun x=>a.eval x.2) 0 ((Array.range (len*ek.sz)).map (z.cells[· % z.cells.size]!)) h1 (by rw[Array.size_map,Array.size_range,List.length_map,←hlen,Nat.zero_add];exact Nat.le_refl _)
     have fo:arr.toList=kb (parts.toList.map fun x=>a.eval x.2):=by
      rw[aE,List.drop_of_length_le (by rw[Array.length_toList,Array.size_map,Array.size_range,List.length_map,←hlen,Nat.zero_add];exact Nat.le_refl _)]
      simp
     have ar:Below w.heap.size w (w.alloc (.cells arr e)):=(Below.refl _ _).alloc (Nat.le_refl _) _
     have hq:bT rd (hT w (w.alloc (.cells arr e)) rd):=fun aL v aA=>by
      have:=qL (h.cJ aL v aA)
      simp[hT,this,aA]
     refine⟨.d d,.slice (some (cellAt w.heap.size 0)) len len,w.alloc (.cells arr e),hT w (w.alloc (.cells arr e)) rd,ad,?_,?_,?_⟩
     ·refine h.more ar hq (fun aL v aA=> ?_) (fun aL v aA bp=>by simpa [hT,bp]using aA)
      unfold hT at aA
      split at aA
      ·rename_i bp
       rw[World.cell?_alloc_lt _ _ _ bp];exact h.cJ _ _ aA
      ·exact aA
     ·simp only[aP]
      obtain⟨_,h2⟩:=L0 hq aC rz
      have:=h2 w.heap.size (fun j v az=>by
       simp only[hT,cellAt,Nat.lt_irrefl,if_false]
       rw[World.cell?_alloc_new,←Array.getElem?_toList,fo]
       exact az)
      simpa [hlen]using this
     ·simp only[Instr.buildSlice,Sem.run_bind,fa hu,Result.andThen_ok,jE p3]
      rw[if_neg (by have:(2:Nat)^24=16777216:=by decide
                    omega)]
      have Ui:(parts.map fun(i,x)=>(i,a.eval x)).toList=((parts.toList.map fun x=>a.eval x.2).zipIdx 0).map fun x=>(x.2,x.1):=by
       rw[Array.toList_map];exact nH
      by_cases tA:len*ek.sz=0
      ·have agz:Instr.fill (fun i=>some (i*ek.sz,ek.sz)) ((Array.range (len*ek.sz)).map ((#[]:Array Value)[· % (#[]:Array Value).size]!)) (((parts.toList.map fun x=>a.eval x.2).zipIdx 0).map fun x=>(x.2,x.1))=some arr:=by
        have he:∀f:Nat→Value,(Array.range 0).map f= #[]:=fun f=>Array.eq_empty_of_size_eq_zero (by simp)
        rw[←al,tA,he,he]
       simp only[Sem.run_pure,Result.andThen_ok,if_pos tA,Sem.run_bind,Ui,agz,newRow,run_newObj]
       rfl
      ·simp only[if_neg tA,Sem.run_bind,wY hi aA,Sem.run_pure,Result.andThen_ok,Ui,al,newRow,run_newObj]
       rfl
  ·exact ad.elim
 ·exact ad.elim
end
end RV
namespace RV
open Go Go.RowKit
section
variable {N:Nat} {aK:dU} {aF:Mem} {R:bC} {σ σ':St} {a:Act} {w:World} {rd:Mem} {β β':bC} {P:Program} {Γ:Env}
def fU (P:Program) (N:Nat) (aK:dU) (aF:Mem) (R:bC) (σ:St) (a:Act) (w:World) (β:bC) (o:Oper) (K:ag→Prop):Prop:=
 ∃av u w' rd',K av∧a8 N aK aF R σ a w' rd' β∧aP rd' β av u∧(execOp a.eval o).run P w= .ok (.value u) w'
theorem Yields.done {s:Sem Value} {K:ag→Prop} {o:Oper} (hy:Yields P N aK aF R σ a w β s K)
 (he:(execOp a.eval o).run P w=(s.run P w).andThen fun u w=> .ok (.value u) w):fU P N aK aF R σ a w β o K:=by
 obtain⟨av,u,w',rd',h1,h2,al,aE⟩:=hy
 exact⟨av,u,w',rd',h1,h2,al,by rw[he,aE];rfl⟩
theorem j1 {K:ag→Prop} {o:Oper} (h:a8 N aK aF R σ a w rd β) {av:ag} {u:Value} (ad:K av) (aq:aP rd β av u) (he:(execOp a.eval o).run P w= .ok (.value u) w):fU P N aK aF R σ a w β o K:=
 ⟨av,u,w,rd,ad,h,aq,he⟩
theorem OW (h:a8 N aK aF R σ a w rd β) {o:Oper} {x:Operand} {t:TypeId} {v:bk} (bh:o.op= .move x∨o.op= .assign x) (ah:kG P t x=some v) {K:ag→Prop} (ad:K (σ.aT v)):fU P N aK aF R σ a w β o K:=
 j1 h ad (qM h ah) (by rcases bh with e|e<;>simp[execOp,e])
theorem map_some {α gX:Type} {x:Option α} {f:α→gX} {y:gX} (h:x.map f=some y):∃v,x=some v∧f v=y:=by
 cases x with
 |none=>cases h
 |some v=>exact⟨v,rfl,by simpa using h⟩
theorem P0 (h:a8 N aK aF R σ a w rd β) {x:Option Operand} {l:Option bk} (ah:E0 P x=some l):xq rd β (l.map σ.aT) (x.map a.eval):=by
 cases x with
 |none=>
  have:none=l:=Option.some.inj ah
  subst this;exact trivial
 |some x=>
  obtain⟨v,ay,rfl⟩:=map_some (show (dz P x).map some=some l from ah)
  exact ef h ay
theorem run_equalIn_bool (d:Nat) {t:TypeId} (hu:P.underlying t=some .bool) (n m:Bool) (w:World):(Op.equalIn (d+1) t (.bool n) (.bool m)).run P w= .ok (n==m) w:=by
 simp only[Op.equalIn,Sem.run_bind,fa hu,Result.andThen_ok,Sem.run_pure]
theorem run_equal_bool {t:TypeId} (hu:P.underlying t=some .bool) (n m:Bool) (w:World):(Op.equal t (.bool n) (.bool m)).run P w= .ok (n==m) w:=
 run_equalIn_bool 9999 hu n m w
theorem MI {t:TypeId} (h:q8 P t=true):P.underlying t=some (.int .i64):=by
 unfold q8 at h
 split at h
 ·assumption
 ·cases h
theorem LM {t:TypeId} (h:q8 P t=true) {cs:Array Value} {off:Nat} {v:Value} (aA:cs[off]? =some v) (w:World):(part t cs off).run P w= .ok v w:=by
 simp[part,isAgg,fa (MI h),aA]
theorem run_equalIn_int (d:Nat) {t:TypeId} (h:q8 P t=true) (n m:Int) (w:World):(Op.equalIn (d+1) t (.int .i64 n) (.int .i64 m)).run P w= .ok (n==m) w:=by
 simp only[Op.equalIn,Sem.run_bind,fa (MI h),Result.andThen_ok,Sem.run_pure,if_true]
theorem Mn {t:TypeId} (h:u4 P t=true):∃f g:Field,P.underlying t=some (.struct #[f,g])∧f.name≠"_"∧g.name≠"_"∧f.offset=0∧g.offset=1∧q8 P f.type=true∧q8 P g.type=true∧P.stoodInHeld t=false∧P.eqGuardType P.depth t=false:=by
 unfold u4 at h
 split at h
 ·rename_i fs hu
  split at h
  ·rename_i f g aB
   simp only[Bool.and_eq_true,bne_iff_ne,beq_iff_eq,Bool.not_eq_true']at h
   obtain⟨⟨⟨⟨⟨⟨⟨h1,h2⟩,al⟩,aE⟩,aI⟩,aM⟩,a4⟩,bz⟩:=h
   refine⟨f,g,?_,h1,h2,al,aE,aI,aM,a4,bz⟩
   rw[hu]
   congr 2
   exact Array.toList_inj.1 aB
  ·cases h
 ·cases h
theorem Zy {t:TypeId} (h:u4 P t=true) (a b c d:Int) (w:World):(Op.equal t (.agg #[.int .i64 a,.int .i64 b]) (.agg #[.int .i64 c,.int .i64 d])).run P w= .ok (a==c && b==d) w:=by
 obtain⟨f,g,hu,iS,k9,ug,cV,i1,i2,ay,_⟩:=Mn h
 have p1:∀x y:Int,∀w,(part f.type #[Value.int .i64 x,.int .i64 y] f.offset).run P w= .ok (.int .i64 x) w:=fun x y w=>LM i1 (by rw[ug];rfl) w
 have cS:∀x y:Int,∀w,(part g.type #[Value.int .i64 x,.int .i64 y] g.offset).run P w= .ok (.int .i64 y) w:=fun x y w=>LM i2 (by rw[cV];rfl) w
 unfold Op.equal
 rw[show Op.maxDepth=9998+1+1 from rfl]
 rw[Op.equalIn]
 simp only[Sem.run_bind,fa hu,Result.andThen_ok]
 cases h1:(a==c)<;>cases h2:(b==d)<;>simp[ay,iS,k9,p1,cS,run_equalIn_int 9998 i1,run_equalIn_int 9998 i2,h1,h2]
theorem Np {rd:Mem} {β:bC} {v:ag} {u:Value} {p:Int×Int} (h:v.pair=some p) (aq:aP rd β v u):u= .agg #[.int .i64 p.1,.int .i64 p.2]:=by
 unfold ag.pair at h
 split at h
 ·simp only[Option.some.injEq]at h;subst h
  simp only[aP,bn,bI]at aq
  obtain⟨vs,rfl,v1,bf,a1,rfl,v2,bd,a6,rfl,rfl⟩:=aq
  rw[a6]at a1
  congr 1
  exact Array.toList_inj.1 a1
 ·simp only[Option.some.injEq]at h;subst h
  simp only[aP,bN,bn]at aq
  obtain⟨vs,rfl,v1,bf,a1,rfl,v2,bd,a6,rfl,rfl⟩:=aq
  rw[a6]at a1
  congr 1
  exact Array.toList_inj.1 a1
 ·cases h
def bo.j7:bo→Bool
 | .call .. | .gj .. =>true
 |_=>false
theorem ZV (h:a8 N aK aF R σ a w rd β) {o:Oper} {x:Operand} (bu:o.op= .assign x) {l:bo} (ae:ng P o.type x=some l) {K:ag→Prop} (ad:bj Γ σ K l):fU P N aK aF R σ a w β o K:=by
 unfold ng at ae
 split at ae
 ·obtain⟨ek,_,rfl⟩:=map_some ae
  simp only[bj]at ad
 ·obtain⟨v,ah,rfl⟩:=map_some ae
  exact OW h (.inr bu) ah ad
theorem aaZ (h:a8 N aK aF R σ a w rd β) {o:Oper} {c x y:Operand} (bu:o.op= .pick c x y) {l:bo} (ae:nv P o.type c x y=some l) {K:ag→Prop} (ad:bj Γ σ K l):fU P N aK aF R σ a w β o K:=by
 unfold nv at ae
 split at ae
 ·rename_i c' dg eh h1 h2 al
  simp only[Option.some.injEq]at ae;subst ae
  simp only[bj]at ad
  have ao:=ef h h1
  split at ad
  ·rename_i t nQ
   rw[nQ]at ao
   simp only[aP,bn]at ao
   cases t with
   |true=>exact j1 h (ad.1 rfl) (qM h h2) (by simp[execOp,bu,ao,asBool])
   |false=>exact j1 h (ad.2 rfl) (qM h al) (by simp[execOp,bu,ao,asBool])
  ·exact ad.elim
 ·cases ae
theorem aa0 (h:a8 N aK aF R σ a w rd β) {o:Oper} {t:TypeId} {x:Operand} (bu:o.op= .load t x) {l:bo} (ae:nw P t x=some l) {K:ag→Prop} (ad:bj Γ σ K l):fU P N aK aF R σ a w β o K:=by
 unfold nw at ae
 split at ae
 ·rename_i dg n g h1 h2
  simp only[Option.some.injEq]at ae;subst ae
  simp only[bj]at ad
  exact(ZO h2 h (ef h h1) ad).done (by simp[execOp,bu])
 ·cases ae
theorem aal (h:a8 N aK aF R σ a w rd β) {o:Oper} {x:Operand} (bu:o.op= .nilCheck x) {v:bk} (ah:dz P x=some v) {K:ag→Prop} (ad:bj Γ σ K (.pF v)):fU P N aK aF R σ a w β o K:=by
 have aq:=ef h ah
 simp only[bj]at ad
 split at ad
 ·rename_i i off nQ
  rw[nQ]at aq
  have dJ:=aq
  simp only[aP]at aq
  obtain⟨r,_,hu⟩:=aq
  exact j1 h ad dJ (by simp[execOp,bu,hu])
 ·rename_i i j off nQ
  rw[nQ]at aq
  have dJ:=aq
  simp only[aP]at aq
  obtain⟨r,_,hu⟩:=aq
  exact j1 h ad dJ (by simp[execOp,bu,hu])
 ·rename_i cs nQ
  rw[nQ]at aq
  have dJ:=aq
  simp only[aP,bn]at aq
  obtain⟨b,o',hu,_⟩:=aq
  exact j1 h ad dJ (by simp[execOp,bu,hu])
 ·rename_i f akr aks nQ
  rw[nQ]at aq
  have dJ:=aq
  simp only[aP,bn]at aq
  obtain⟨e8,vc,hu,_⟩:=aq
  exact j1 h ad dJ (by simp[execOp,bu,hu])
 ·rename_i f akr aks nQ
  rw[nQ]at aq
  have dJ:=aq
  simp only[aP]at aq
  obtain⟨e8,vc,hu,_⟩:=aq
  exact j1 h ad dJ (by simp[execOp,bu,hu])
 ·exact ad.elim
theorem abJ (h:a8 N aK aF R σ a w rd β) {o:Oper} {op:BinOp} {t n4:TypeId} {x y:Operand} (bu:o.op= .binOp op t x y n4) {l:bo} (ae:nF P op t x y=some l) {K:ag→Prop} (ad:bj Γ σ K l):fU P N aK aF R σ a w β o K:=by
 unfold nF at ae
 split at ae
 ·rename_i dg eh h1 h2
  have cL:=ef h h1
  have fp:=ef h h2
  have Bo:bj Γ σ K (.bin op dg eh)→fU P N aK aF R σ a w β o K:=by
   intro ad
   simp only[bj]at ad
   split at ad
   ·rename_i k n dM m a1 a6
    rw[a1]at cL;rw[a6]at fp
    simp only[aP,bn]at cL fp
    refine(ZT (op:=op) (t:=t) h ad.1 ad.2).done ?_
    simp only[execOp,bu,cL,fp]
    cases op<;>simp[eqGuard]
   ·rename_i n m a1 a6
    rw[a1]at cL;rw[a6]at fp
    simp only[aP,bn]at cL fp
    obtain⟨qs,aH,rA⟩:=cL
    obtain⟨eB,hm,nR⟩:=fp
    refine(ZU (op:=op) (t:=t) h rA nR ad).done ?_
    simp only[execOp,bu,aH,hm]
    cases op<;>simp[eqGuard]
   ·exact ad.elim
  have Rz:∀{ne:Bool},u4 P t=true→op=(if ne then .neq else .eql)→bj Γ σ K (.oN ne dg eh)→fU P N aK aF R σ a w β o K:=by
   intro ne aS xM ad
   simp only[bj]at ad
   split at ad
   ·rename_i p q a1 a6
    have cL:=Np a1 cL
    have fp:=Np a6 fp
    obtain⟨_,_,_,_,_,_,_,_,_,_,bb⟩:=Mn aS
    refine j1 h ad (u:= .bool (if ne then !(p.1==q.1 && p.2==q.2)else (p.1==q.1 && p.2==q.2))) (by simp only[aP,bn]) ?_
    cases ne<;>simp at xM<;>subst xM<;>
     simp[execOp,bu,cL,fp,eqGuard,binOp,Zy aS,bb]
   ·exact ad.elim
  have RA:∀{ne:Bool},P.underlying t=some .bool→op=(if ne then .neq else .eql)→bj Γ σ K (.kL ne dg eh)→fU P N aK aF R σ a w β o K:=by
   intro ne hu xM ad
   simp only[bj]at ad
   split at ad
   ·rename_i n m a1 a6
    rw[a1]at cL;rw[a6]at fp
    simp only[aP,bn]at cL fp
    refine j1 h ad (u:= .bool (if ne then n !=m else n==m)) (by simp only[aP,bn]) ?_
    cases ne<;>simp at xM<;>subst xM<;>
     simp[execOp,bu,cL,fp,eqGuard,binOp,run_equal_bool hu,bne]
   ·exact ad.elim
  split at ae
  ·rename_i hu
   simp only[Option.some.injEq]at ae;subst ae
   exact RA hu rfl ad
  ·rename_i hu
   simp only[Option.some.injEq]at ae;subst ae
   exact RA hu rfl ad
  ·simp only[Option.some.injEq]at ae;subst ae
   exact Bo ad
  ·simp only[Option.some.injEq]at ae;subst ae
   exact Bo ad
  ·split at ae
   ·rename_i aS
    simp only[Option.some.injEq]at ae;subst ae
    exact Rz aS rfl ad
   ·cases ae
  ·split at ae
   ·rename_i aS
    simp only[Option.some.injEq]at ae;subst ae
    exact Rz aS rfl ad
   ·cases ae
  ·cases ae
 ·split at ae
  ·simp only[Option.some.injEq]at ae;subst ae
   simp only[bj]at ad
  ·cases ae
 ·cases ae
theorem acB (h:a8 N aK aF R σ a w rd β) {o:Oper} {op:UnOp} {t:TypeId} {x:Operand} (bu:o.op= .unOp op t x) {v:bk} (ah:dz P x=some v) {K:ag→Prop} (ad:bj Γ σ K (.un op v)):fU P N aK aF R σ a w β o K:=by
 have aq:=ef h ah
 simp only[bj]at ad
 split at ad
 ·rename_i b e
  rw[e]at aq
  simp only[aP,bn]at aq
  exact(Yields.bool (s:=Op.unary .not (a.eval x)) h ad (by simp[aq,Op.unary])).done (by simp[execOp,bu])
 ·rename_i k n e
  rw[e]at aq
  simp only[aP,bn]at aq
  exact(sx (s:=Op.unary .neg (a.eval x)) h ad (by simp[aq,Op.unary,Op.intArith])).done (by simp[execOp,bu])
 ·rename_i b e
  rw[e]at aq
  simp only[aP,bn]at aq
  obtain⟨y,hu,hy⟩:=aq
  refine j1 h ad (u:= .float .f64 (Op.negFloat .f64 y)) (by simp only[aP,bn];exact⟨_,rfl,by rw[aaY,hy]⟩) (by simp[execOp,bu,hu,Op.unary])
 ·exact ad.elim
theorem aa1 (h:a8 N aK aF R σ a w rd β) {o:Oper} {s t:TypeId} {x:Operand} (bu:o.op= .convert s t x) {l:bo} (ae:nx P s t x=some l) {K:ag→Prop} (ad:bj Γ σ K l):fU P N aK aF R σ a w β o K:=by
 have du:∀{dg},(∃d,P.underlying s=some d)→P.underlying t=some (.float .f64)→dz P x=some dg→bj Γ σ K (.oA dg)→fU P N aK aF R σ a w β o K:=by
  rintro dg ⟨d,ay⟩ rB ah ad
  have aq:=ef h ah
  simp only[bj]at ad
  split at ad
  ·rename_i dM n e
   rw[e]at aq
   simp only[aP,bn]at aq
   exact j1 h ad (u:= .float .f64 (FloatKind.f64.nearest n)) (by simp only[aP,bn];exact⟨_,rfl,rfl⟩) (by simp[execOp,bu,aq,convert,fa ay,fa rB,Conv.intToFloat])
  ·rename_i b e
   rw[e]at aq
   simp only[aP,bn]at aq
   obtain⟨y,hu,hy⟩:=aq
   exact j1 h ad (u:= .float .f64 y) (by simp only[aP,bn];exact⟨_,rfl,hy⟩) (by simp[execOp,bu,hu,convert,fa ay,fa rB,Conv.floatToFloat])
  ·exact ad.elim
 unfold nx at ae
 split at ae
 ·rename_i dg akt k ah ay rB
  simp only[Option.some.injEq]at ae;subst ae
  have aq:=ef h ah
  simp only[bj]at ad
  split at ad
  ·rename_i dM n e
   rw[e]at aq
   simp only[aP,bn]at aq
   exact(sx (s:=convert s t (a.eval x)) h ad (by simp[aq,convert,fa ay,fa rB,Conv.intToInt])).done (by simp[execOp,bu])
  ·exact ad.elim
 ·rename_i dg akt ah ay rB
  simp only[Option.some.injEq]at ae;subst ae
  exact du ⟨_,ay⟩ rB ah ad
 ·rename_i dg ah ay rB
  simp only[Option.some.injEq]at ae;subst ae
  exact du ⟨_,ay⟩ rB ah ad
 ·cases ae
end
end RV
namespace RV
open Go Go.RowKit
section
variable {N:Nat} {aK:dU} {aF:Mem} {R:bC} {σ σ':St} {a:Act} {w:World} {rd:Mem} {β β':bC} {P:Program} {Γ:Env}
theorem aam (h:a8 N aK aF R σ a w rd β) {o:Oper} {s:TypeId} {x:Operand} {f:Nat} (bu:o.op= .fieldAddr s x f) {l:bo} (ae:nm P s x f=some l) {K:ag→Prop} (ad:bj Γ σ K l):fU P N aK aF R σ a w β o K:=by
 unfold nm at ae
 split at ae
 ·rename_i fs dg hu ah
  split at ae
  ·rename_i fd hf
   split at ae
   ·rename_i n aH
    simp only[Option.some.injEq]at ae;subst ae
    have aq:=ef h ah
    have run:∀b o',a.eval x= .pointer (some (cellAt b o'))→(Instr.fieldAt s (a.eval x) f).run P w= .ok (.pointer (some (cellAt b (o'+fd.offset)))) w:=by
     intro b o' e
     simp[Instr.fieldAt,fa hu,hf,e,Instr.sureAddr,fieldPlace,jE aH,oh]
    simp only[bj]at ad
    split at ad
    ·rename_i i off e
     rw[e]at aq
     simp only[aP]at aq
     obtain⟨r,kU,kk⟩:=aq
     exact(Yields.here h ad (by simp only[aP];exact⟨r,kU,by rw[Nat.add_assoc]⟩) (run _ _ kk)).done (by simp[execOp,bu])
    ·rename_i i j off e
     rw[e]at aq
     simp only[aP]at aq
     obtain⟨r,kU,kk⟩:=aq
     exact(Yields.here h ad (by simp only[aP];exact⟨r,kU,by rw[Nat.add_assoc]⟩) (run _ _ kk)).done (by simp[execOp,bu])
    ·rename_i cs e
     rw[e]at aq
     simp only[aP,bn]at aq
     obtain⟨b,o',kU,kk⟩:=aq
     exact(Yields.here h ad (by simp only[aP,bn];exact⟨b,_,rfl,kk.drop _⟩) (run _ _ kU)).done (by simp[execOp,bu])
    ·exact ad.elim
   ·cases ae
  ·cases ae
 ·cases ae
theorem Nq {t:TypeId} {n:Nat} {g:Bool} (ae:lF P t=some (n,g)) {cs:List ag} {vs:Array Value} (aA:bN rd β cs vs.toList) {off:Nat} {K:ag→Prop}
 (ad:if g=true then off+n≤cs.length∧K (.agg ((cs.drop off).take n))else match cs[off]? with|some v=>K v|none=>False):
 ∃av u,K av∧aP rd β av u∧∀w,(part t vs off).run P w= .ok u w:=by
 cases g with
 |true=>
  simp only[if_true]at ad
  refine⟨_,.agg (vs.extract off (off+n)),ad.2,?_,fun w=>by simp[part,z1 ae,jE (Eo ae)]⟩
  simp only[aP]
  refine⟨_,rfl,?_⟩
  have:=DW n (DX off aA)
  rw[Array.toList_extract,List.extract_eq_take_drop]
  rwa [show off+n - off=n by omega]
 |false=>
  simp only[Bool.false_eq_true,if_false]at ad
  split at ad
  ·rename_i c ao
   obtain⟨u,h1,h2⟩:=D8 aA ao
   refine⟨c,u,ad,h2,fun w=> ?_⟩
   have:vs[off]? =some u:=by simpa using h1
   simp[part,z1 ae,this]
  ·exact ad.elim
theorem aan (h:a8 N aK aF R σ a w rd β) {o:Oper} {s:TypeId} {x:Operand} {f:Nat} (bu:o.op= .field s x f) {l:bo} (ae:nn P s x f=some l) {K:ag→Prop} (ad:bj Γ σ K l):fU P N aK aF R σ a w β o K:=by
 unfold nn at ae
 split at ae
 ·rename_i fs dg hu ah
  split at ae
  ·rename_i fd hf
   split at ae
   ·rename_i n g aH
    simp only[Option.some.injEq]at ae;subst ae
    have aq:=ef h ah
    simp only[bj]at ad
    split at ad
    ·rename_i cs e
     rw[e]at aq
     simp only[aP]at aq
     obtain⟨vs,iH,H⟩:=aq
     obtain⟨av,u,h1,h2,al⟩:=Nq aH H ad
     exact(Yields.here h (s:=Instr.field s (a.eval x) f) h1 h2 (by simp[Instr.field,fa hu,hf,iH,asAgg,al])).done (by simp[execOp,bu])
    ·exact ad.elim
   ·cases ae
  ·cases ae
 ·cases ae
theorem abK (h:a8 N aK aF R σ a w rd β) {o:Oper} {t:TypeId} {x i:Operand} (bu:o.op= .index t x i) {l:bo} (ae:nq P t x i=some l) {K:ag→Prop} (ad:bj Γ σ K l):fU P N aK aF R σ a w β o K:=by
 unfold nq at ae
 split at ae
 ·rename_i len e dg jX hu ah hi
  split at ae
  ·rename_i n g aH
   simp only[Option.some.injEq]at ae;subst ae
   have cL:=ef h ah
   have kV:=ef h hi
   simp only[bj]at ad
   split at ad
   ·rename_i cs k j a1 a6
    rw[a1]at cL;rw[a6]at kV
    simp only[aP,bn]at cL kV
    obtain⟨vs,iH,H⟩:=cL
    obtain⟨h0,h1,ad⟩:=ad
    obtain⟨av,u,br,bw,c3⟩:=Nq aH H ad
    exact(Yields.here h (s:=Instr.index t (a.eval x) (a.eval i)) br bw (by simp[Instr.index,kV,asIntOf,fa hu,iH,h0,h1,jE (Eo aH),c3])).done (by simp[execOp,bu])
   ·exact ad.elim
  ·cases ae
 ·cases ae
theorem aao (h:a8 N aK aF R σ a w rd β) {o:Oper} {t:TypeId} {x i:Operand} (bu:o.op= .indexAddr t x i) {l:bo} (ae:np P t x i=some l) {K:ag→Prop} (ad:bj Γ σ K l):fU P N aK aF R σ a w β o K:=by
 unfold np at ae
 split at ae
 ·rename_i e dg jX hu ah hi
  obtain⟨n,aH,rfl⟩:=map_some ae
  have cL:=ef h ah
  have kV:=ef h hi
  simp only[bj]at ad
  split at ad
  ·rename_i k j a6
   rw[a6]at kV
   simp only[aP,bn]at kV
   exact(ZD (k:=k) hu aH h cL ad).done (by simp[execOp,bu,kV])
  ·exact ad.elim
 ·rename_i len e dg jX hu ah hi
  obtain⟨n,aH,rfl⟩:=map_some ae
  have cL:=ef h ah
  have kV:=ef h hi
  simp only[bj]at ad
  have run:∀b o' k j,a.eval x= .pointer (some (cellAt b o'))→a.eval i= .int k j→0≤j→j<len→(Instr.indexAt t (a.eval x) (a.eval i)).run P w= .ok (.pointer (some (cellAt b (o'+j.toNat*n)))) w:=by
   intro b o' k j a1 a6 h0 h1
   simp[Instr.indexAt,a1,a6,asIntOf,fa hu,Instr.sureAddr,h0,h1,jE aH,oh]
  split at ad
  ·rename_i b off k j a1 a6
   rw[a1]at cL;rw[a6]at kV
   simp only[aP,bn]at cL kV
   obtain⟨r,kU,kk⟩:=cL
   obtain⟨h0,h1,ad⟩:=ad
   exact(Yields.here h ad (by simp only[aP];exact⟨r,kU,by rw[Nat.add_assoc]⟩) (run _ _ _ _ kk kV h0 h1)).done (by simp[execOp,bu])
  ·rename_i cs k j a1 a6
   rw[a1]at cL;rw[a6]at kV
   simp only[aP,bn]at cL kV
   obtain⟨b,o',kU,kk⟩:=cL
   obtain⟨h0,h1,ad⟩:=ad
   exact(Yields.here h ad (by simp only[aP,bn];exact⟨b,_,rfl,kk.drop _⟩) (run _ _ _ _ kU kV h0 h1)).done (by simp[execOp,bu])
  ·exact ad.elim
 ·cases ae
theorem EH {m:Mem} :∀{ds:List D} {vs:List Value} {k:Nat} {d:D},bI m ds vs→ds[k]? =some d→∃v,vs[k]? =some v∧bn m d v
 |c::cs,vs,0,c',h,ao=>by
  simp only[bI]at h
  obtain⟨v,oR,rfl,h1,h2⟩:=h
  simp at ao;subst ao
  exact⟨v,rfl,h1⟩
 |c::cs,vs,k+1,c',h,ao=>by
  simp only[bI]at h
  obtain⟨v,oR,rfl,h1,h2⟩:=h
  have ct:cs[k]? =some c':=by simpa using ao
  obtain⟨x,al,aE⟩:=EH h2 ct
  exact⟨x,by simpa using al,aE⟩
theorem aa2 (h:a8 N aK aF R σ a w rd β) {o:Oper} {x:Operand} {i:Nat} (bu:o.op= .extract x i) {v:bk} (ah:dz P x=some v) {K:ag→Prop} (ad:bj Γ σ K (.lC i v)):fU P N aK aF R σ a w β o K:=by
 have aq:=ef h ah
 simp only[bj]at ad
 split at ad
 ·rename_i ds e
  rw[e]at aq
  simp only[aP,bn]at aq
  obtain⟨vs,hu,H⟩:=aq
  split at ad
  ·rename_i d aC
   obtain⟨u,h1,h2⟩:=EH H aC
   have HO:vs[i]? =some u:=by simpa using h1
   exact(Yields.here h (s:=Instr.extract (a.eval x) i) ad (ml h2) (by simp[Instr.extract,hu,HO])).done (by simp[execOp,bu])
  ·exact ad.elim
 ·exact ad.elim
theorem LC {t:TypeId} (h:wW P t=true):∃e,P.underlying t=some (.slice e):=by
 unfold wW at h
 split at h
 ·rename_i e he;exact⟨e,he⟩
 ·cases h
theorem ZF (h:a8 N aK aF R σ a w rd β) {o:Oper} {b:Builtin} {args:Array Operand} {c2:Array TypeId} (bu:o.op= .call { callee:= .builtin b,args,argTypes:=c2 }) {l:bo}
 (ae:nd P b args.toList c2.toList=some l) {K:ag→Prop} (ad:bj Γ σ K l):fU P N aK aF R σ a w β o K:=by
 unfold nd at ae
 split at ae
 ·rename_i x t a2 yd
  split at ae
  ·rename_i ay
   obtain⟨e,hu⟩:=LC ay
   obtain⟨v,ah,rfl⟩:=map_some ae
   have aq:=ef h ah
   have mJ:args= #[x]:=by rw[←Array.toList_inj];exact a2
   have xN:c2= #[t]:=by rw[←Array.toList_inj];exact yd
   subst mJ xN
   have run:∀A n cap,a.eval x= .slice A n cap→(Builtin.len_ #[t] o.type #[a.eval x]).run P w= .ok (.int .i64 n) w:=by
    intro A n cap e
    simp[Builtin.len_,fa hu,e,goInt]
   have fin:∀{n:Nat},K (.d (.int .i64 n))→(∃A cap,a.eval x= .slice A n cap)→fU P N aK aF R σ a w β o K:=by
    rintro n ad ⟨A,cap,e⟩
    refine(Yields.int (s:=Builtin.len_ #[t] o.type #[a.eval x]) h ad (run _ _ _ e)).done ?_
    simp[execOp,bu,resolve,invoke,builtin]
   simp only[bj,ve]at ad
   generalize σ.aT v=y at aq ad
   split at ad<;>first
    |(simp only[aP,bn]at aq;obtain⟨A,cap,h1,_⟩:=aq;exact fin ad ⟨A,cap,h1⟩)
    |exact ad.elim
  ·cases ae
 ·rename_i x y a2
  split at ae
  ·rename_i dg eh ah hy
   simp only[Option.some.injEq]at ae;subst ae
   have cL:=ef h ah
   have fp:=ef h hy
   have mJ:args= #[x,y]:=by rw[←Array.toList_inj];exact a2
   subst mJ
   simp only[bj]at ad
   split at ad
   ·rename_i k n dM m a1 a6
    rw[a1]at cL;rw[a6]at fp
    simp only[aP,bn]at cL fp
    refine(Yields.int (s:=Builtin.max_ c2 o.type #[a.eval x,a.eval y]) h ad ?_).done ?_
    ·simp[Builtin.max_,cL,fp,Builtin.max2]
    ·simp[execOp,bu,resolve,invoke,builtin]
   ·exact ad.elim
  ·cases ae
 ·rename_i x y a2
  split at ae
  ·rename_i dg eh ah hy
   simp only[Option.some.injEq]at ae;subst ae
   have cL:=ef h ah
   have fp:=ef h hy
   have mJ:args= #[x,y]:=by rw[←Array.toList_inj];exact a2
   subst mJ
   simp only[bj]at ad
   split at ad
   ·rename_i k n dM m a1 a6
    rw[a1]at cL;rw[a6]at fp
    simp only[aP,bn]at cL fp
    refine(Yields.int (s:=Builtin.min_ c2 o.type #[a.eval x,a.eval y]) h ad ?_).done ?_
    ·simp[Builtin.min_,cL,fp,Builtin.min2]
    ·simp[execOp,bu,resolve,invoke,builtin]
   ·exact ad.elim
  ·cases ae
 ·split at ae
  ·split at ae
   ·simp only[Option.some.injEq]at ae;subst ae;simp only[bj]at ad
   ·cases ae
  ·cases ae
 ·split at ae
  ·split at ae
   ·simp only[Option.some.injEq]at ae;subst ae;simp only[bj]at ad
   ·cases ae
  ·cases ae
 ·cases ae
theorem aap (h:a8 N aK aF R σ a w rd β) {o:Oper} {t:TypeId} {x:Operand} {lo hi jW:Option Operand} (bu:o.op= .slice t x lo hi jW) {l:bo} (ae:nr P t x lo hi jW=some l) {K:ag→Prop} (ad:bj Γ σ K l):fU P N aK aF R σ a w β o K:=by
 unfold nr at ae
 split at ae
 ·rename_i e dg hu ah
  split at ae
  ·rename_i n lo' hi' aH jm lM
   simp only[Option.some.injEq]at ae;subst ae
   simp only[bj]at ad
   exact(aai hu aH h (ef h ah) (P0 h jm) (P0 h lM) ad).done (by simp[execOp,bu])
  ·cases ae
 ·cases ae
theorem ZW (h:a8 N aK aF R σ a w rd β) {o:Oper} {t:TypeId} {len:Nat} {parts:Array (Nat×Operand)} (bu:o.op= .buildSlice t len parts) {l:bo} (ae:nG P t len parts=some l) {K:ag→Prop} (ad:bj Γ σ K l):fU P N aK aF R σ a w β o K:=by
 unfold nG at ae
 split at ae
 ·rename_i e hu
  split at ae
  ·rename_i ek jn
   split at ae
   ·rename_i bg
    split at ae
    ·split at ae
     ·simp only[Option.some.injEq]at ae;subst ae;simp only[bj]at ad
     ·cases ae
    ·split at ae
     ·rename_i ao
      simp only[Bool.and_eq_true,decide_eq_true_eq]at ao
      obtain⟨ls,HN,rfl⟩:=map_some ae
      exact(aak h hu jn ao.1 ao.2 bg HN ad).done (by simp[execOp,bu])
     ·cases ae
   ·cases ae
  ·cases ae
 ·cases ae
theorem aa3 (h:a8 N aK aF R σ a w rd β) {o:Oper} {f:Nat} {fst cap:Array Operand} (bu:o.op= .makeFunc (.func f) fst cap) {l:bo} (ae:nz P f fst cap=some l) {K:ag→Prop} (ad:bj Γ σ K l):fU P N aK aF R σ a w β o K:=by
 unfold nz at ae
 split at ae
 ·rename_i x y ah hy
  simp only[Option.some.injEq]at ae;subst ae
  have kU:=nb h ah
  have kk:=nb h hy
  have he:(execOp a.eval o).run P w= .ok (.value (.func (.func f) (fst.map a.eval) (cap.map a.eval))) w:=by simp[execOp,bu,Instr.makeFunc]
  simp only[bj]at ad
  split at ad
  ·rename_i aS
   simp only[Bool.and_eq_true]at aS
   split at ad
   ·rename_i d1 d2 h1 h2
    have bP:=uG h aS.1 h1 kU
    have ca:=uG h aS.2 h2 kk
    exact j1 h ad (by simp only[aP,bn];exact⟨_,_,rfl,by simpa using bP,by simpa using ca⟩) he
   ·exact ad.elim
  ·exact j1 h ad (by simp only[aP];exact⟨_,_,rfl,by simpa using kU,by simpa using kk⟩) he
 ·cases ae
theorem aa4 (h:a8 N aK aF R σ a w rd β) {o:Oper} {l:bo} (ae:dm P o.type o.op=some l) (ao:l.j7=false) {K:ag→Prop} (ad:bj Γ σ K l):fU P N aK aF R σ a w β o K:=by
 cases bu:o.op with
 |assign x=>rw[bu]at ae;exact ZV h bu ae ad
 |move x=>rw[bu]at ae;obtain⟨v,ah,rfl⟩:=map_some ae;exact OW h (.inl bu) ah ad
 |pick c x y=>rw[bu]at ae;exact aaZ h bu ae ad
 |alloc e=>rw[bu]at ae;obtain⟨z,_,rfl⟩:=map_some ae;simp only[bj]at ad
 |box e x=>rw[bu]at ae;obtain⟨z,_,rfl⟩:=map_some ae;simp only[bj]at ad
 |load t x=>rw[bu]at ae;exact aa0 h bu ae ad
 |store t x y=>
  rw[bu]at ae
  simp only[dm,ox]at ae
  split at ae
  ·simp only[Option.some.injEq]at ae;subst ae;simp only[bj]at ad
  ·cases ae
 |nilCheck x=>rw[bu]at ae;obtain⟨v,ah,rfl⟩:=map_some ae;exact aal h bu ah ad
 |binOp op t x y n4=>rw[bu]at ae;exact abJ h bu ae ad
 |unOp op t x=>rw[bu]at ae;obtain⟨v,ah,rfl⟩:=map_some ae;exact acB h bu ah ad
 |convert s t x=>rw[bu]at ae;exact aa1 h bu ae ad
 |fieldAddr s x f=>rw[bu]at ae;exact aam h bu ae ad
 |field s x f=>rw[bu]at ae;exact aan h bu ae ad
 |indexAddr t x i=>rw[bu]at ae;exact aao h bu ae ad
 |index t x i=>rw[bu]at ae;exact abK h bu ae ad
 |extract x i=>rw[bu]at ae;obtain⟨v,ah,rfl⟩:=map_some ae;exact aa2 h bu ah ad
 |makeFunc f x y=>
  rw[bu]at ae
  cases f with
  |func f=>exact aa3 h bu ae ad
  |_=>cases ae
 |makeSlice t x y=>
  rw[bu]at ae
  simp only[dm,oC]at ae
  split at ae
  ·split at ae
   ·split at ae
    ·simp only[Option.some.injEq]at ae;subst ae;simp only[bj]at ad
    ·cases ae
   ·cases ae
  ·cases ae
 |slice t x lo hi jW=>rw[bu]at ae;exact aap h bu ae ad
 |build t parts=>rw[bu]at ae;exact(ZE h ae ad).done (by simp[execOp,bu])
 |buildSlice t len parts=>rw[bu]at ae;exact ZW h bu ae ad
 |call c=>
  rw[bu]at ae
  cases c with
  |mk callee args c2=>
   cases callee with
   |builtin b=>exact ZF h bu ae ad
   |invoke r m=>cases ae
   |value x=>
    simp only[dm,nA]at ae
    split at ae
    ·rename_i e;cases e
    ·obtain⟨v,ah,rfl⟩:=map_some ae;simp[bo.j7]at ao
    ·split at ae
     ·simp only[Option.some.injEq]at ae;subst ae;simp[bo.j7]at ao
     ·cases ae
    ·cases ae
 |panic x=>rw[bu]at ae;have:bo.bad=l:=Option.some.inj ae;subst this;simp only[bj]at ad
 |makeInterface t x=>rw[bu]at ae;have:bo.bad=l:=Option.some.inj ae;subst this;simp only[bj]at ad
 |_=>rw[bu]at ae;cases ae
end
end RV
namespace RV
open Go Go.RowKit
def sT (P:Program) (f:Nat):Prop:=∃fn,P.funcs[f]? =some fn∧(fn.name== "runtime.NumGoroutine")=false∧fn.body.isNone=false
def E3 (w w':World) (d:D) (v:Value):Prop:=
 ∃c n A cap,hL d=some (c,n)∧v= .slice A n cap∧n≤cap∧((n=0∧cap=0)∨
  ∃r:cY,r.whole=true∧w.heap.size≤r.bS∧kN w' r∧ey w' (fun _=>none) (fun _=>none) r c∧A=some (cellAt r.bS r.off)∧cap*r.sz≤r.len)
def ra (C:bq) (rd:Mem) (w w':World) (d:D) (v:Value):Prop:=
 (C.own=false→bn (hT w w' rd) d v)∧(C.own=true→E3 w w' d v)
theorem ra.rep {C:bq} {rd:Mem} {w w':World} {d:D} {v:Value} (h:ra C rd w w' d v):bn (hT w w' rd) d v:=by
 cases ao:C.own with
 |false=>exact h.1 ao
 |true=>
  obtain⟨c,n,A,cap,aC,rfl,aH,hA⟩:=h.2 ao
  have B9:∀{r:cY},w.heap.size≤r.bS→∀i,hT w w' rd (cellAt r.bS i)=w'.cell? (cellAt r.bS i):=fun {r} aq i=>by
   unfold hT
   exact if_neg (fun bp=>by simp only[cellAt]at bp;omega)
  cases d with
  |ints k xs=>
   simp only[hL,Option.some.injEq,Prod.mk.injEq]at aC
   obtain⟨rfl,rfl⟩:=aC
   simp only[bn]
   refine⟨A,cap,rfl,aH,?_⟩
   rcases hA with ⟨h0,_⟩|⟨r,_,aq,_,ar,hA,_⟩
   ·exact .inl (List.eq_nil_of_length_eq_zero h0)
   ·exact .inr ⟨r.bS,r.off,hA,fb.cells (fun i _ _=>B9 aq i) ar.2.2⟩
  |flts xs=>
   simp only[hL,Option.some.injEq,Prod.mk.injEq]at aC
   obtain⟨rfl,rfl⟩:=aC
   simp only[bn]
   refine⟨A,cap,rfl,aH,?_⟩
   rcases hA with ⟨h0,_⟩|⟨r,_,aq,_,ar,hA,_⟩
   ·exact .inl (List.eq_nil_of_length_eq_zero h0)
   ·exact .inr ⟨r.bS,r.off,hA,fk.cells (fun i _ _=>B9 aq i) ar.2.2⟩
  |_=>simp[hL]at aC
def my (P:Program) (B:Mem) (f:Nat) (C:bq):Prop:=
 sT P f∧∀ds,C.pre ds→∀w rd vs,bT B rd→bT rd w.cell?→bI rd ds vs.toList→
  Calls P f vs w fun e w'=>∃v,e= .returned v∧Below w.heap.size w w'∧ra C rd w w' (C.res ds) v
def P1 (P:Program) (B:Mem) (Γ:Env):Prop:=∀f C,Γ.fn f=some C→my P B f C
mutual
theorem Nr {m eB:Mem} :∀(d:D) (v:Value),d.flat=true→bn m d v→bn eB d v
 | .bool _,_,_,H=>by simpa only[bn]using H
 | .int _ _,_,_,H=>by simpa only[bn]using H
 | .flt _,_,_,H=>by simpa only[bn]using H
 | .ints _ _,_,h,_=>by simp[D.flat]at h
 | .flts _,_,h,_=>by simp[D.flat]at h
 | .recs _ _,_,h,_=>by simp[D.flat]at h
 | .ptr _,_,h,_=>by simp[D.flat]at h
 | .agg cs,_,h,H=>by
   simp only[bn]at*
   obtain⟨vs,e,H⟩:=H
   exact⟨vs,e,Es cs _ (by simpa [D.flat]using h) H⟩
 | .ep cs,_,h,H=>by
   simp only[bn]at*
   obtain⟨vs,e,H⟩:=H
   exact⟨vs,e,Es cs _ (by simpa [D.flat]using h) H⟩
 | .fn _ _ _,_,h,_=>by simp[D.flat]at h
 | .nilfn,_,h,_=>by simp[D.flat]at h
 | .nilp,_,h,_=>by simp[D.flat]at h
theorem Es {m eB:Mem} :∀(ds:List D) (vs:List Value),D.pG ds=true→bI m ds vs→bI eB ds vs
 |[],_,_,H=>by simpa only[bI]using H
 |d::ds,_,h,H=>by
  simp only[D.pG,Bool.and_eq_true]at h
  simp only[bI]at*
  obtain⟨v,us,e,h1,h2⟩:=H
  exact⟨v,us,e,Nr d v h.1 h1,Es ds us h.2 h2⟩
end
section
variable {N:Nat} {aK:dU} {aF:Mem} {R:bC} {σ σ':St} {a:Act} {w:World} {rd:Mem} {β β':bC} {P:Program} {Γ:Env}
theorem EI {bW:World} (ar:Below w.heap.size w bW) {m:Mem} (h:bT m w.cell?):bT m bW.cell? :=fun aL v e=>by
 rw[na (ar.block _ (qL (h aL v e)))];exact h aL v e
theorem abL {bW:World} (ar:Below w.heap.size w bW) {m:Mem} (h:bT m w.cell?):bT (hT w bW m) bW.cell? :=fun aL v e=>by
 unfold hT at e
 split at e
 ·exact EI ar h aL v e
 ·exact e
theorem abM {bW:World} {m:Mem} (h:bT m w.cell?):bT m (hT w bW m):=fun aL v e=>by
 simp[hT,qL (h aL v e),e]
theorem a8.fresh (h:a8 N aK aF R σ a w rd β) {bW:World} (ar:Below w.heap.size w bW):a8 N aK aF R σ a bW (hT w bW rd) β:=
 h.more ar (abM h.cJ) (abL ar h.cJ) fun aL v e aB=>by simpa [hT,aB]using e
theorem a8.below (h:a8 N aK aF R σ a w rd β) {bW:World} (ar:Below w.heap.size w bW):a8 N aK aF R σ a bW rd β:=
 h.more ar (bT.refl _) (EI ar h.cJ) fun _ _ e _=>e
theorem DR {f:Nat} (bb:sT P f) (vs:Array Value) (w:World):(callFunc f vs).run P w= .ok (.enter f vs) w:=by
 obtain⟨fn,h1,h2,al⟩:=bb
 have HP:¬fn.name= "runtime.NumGoroutine" :=by simpa using h2
 have agA:¬fn.body=none:=fun e=>by rw[e]at al;cases al
 simp[callFunc,h1,HP,agA]
theorem uK {o:Oper} {f:Nat} {C:bq} (hf:my P aF f C) {vs:Array Value} (aq:(execOp a.eval o).run P w= .ok (.enter f vs) w) {m:Mem} (aN:bT aF m) (hm:bT m w.cell?) {ds:List D} (aS:C.pre ds)
 (aC:bI m ds vs.toList) {next:Act→World→Prop} {Q:Exit→Act→World→Prop} (aH:∀v bW,Below w.heap.size w bW→ra C m w bW (C.res ds) v→next (a.put o.dst v) bW):o.wp P a w next Q:=by
 unfold Oper.wp
 rw[aq,Oper.upon_enter]
 refine(hf.2 ds aS w m vs aN hm aC).mono ?_
 rintro e bW ⟨v,rfl,h1,h2⟩
 exact aH v bW h1 h2
theorem Et {o:Oper} {f:Nat} {args:Array Operand} {c2:Array TypeId} (bu:o.op= .call { callee:= .value (.func f),args,argTypes:=c2 }) (bb:sT P f):
 (execOp a.eval o).run P w= .ok (.enter f (args.map a.eval)) w:=by
 simp[execOp,bu,resolve,Act.eval,Deferred.ofValue,invoke,DR bb]
theorem zQ {o:Oper} {x:Operand} {f:Nat} {e8 vc:Array Value} {args:Array Operand} {c2:Array TypeId} (bu:o.op= .call { callee:= .value x,args,argTypes:=c2 }) (ah:a.eval x= .func (.func f) e8 vc) (bb:sT P f):
 (execOp a.eval o).run P w= .ok (.enter f (e8++args.map a.eval++vc)) w:=by
 simp[execOp,bu,resolve,ah,Deferred.ofValue,invoke,DR bb]
theorem uy {m:Mem} :∀{ds es:List D} {vs us:List Value},bI m ds vs→bI m es us→bI m (ds++es) (vs++us)
 |[],es,vs,us,h,k=>by simp only[bI]at h;simpa [h]using k
 |d::ds,es,vs,us,h,k=>by
  simp only[bI,List.cons_append]at*
  obtain⟨v,oR,rfl,h1,h2⟩:=h
  exact⟨v,oR++us,rfl,h1,uy h2 k⟩
theorem Ns {m eB:Mem} {d:D} {v:Value} (hf:d.flat=true) (h:bn m d v):aP eB β (cX d) v:=ml (Nr d v hf h)
theorem aaq (cE:P1 P aF Γ) (h:a8 N aK aF R σ a w rd β) {o:Oper} {l:bo} (ae:dm P o.type o.op=some l) (ao:l.j7=true) {K:ag→Prop} (ad:bj Γ σ K l)
 (iI:∀x as,l= .gj x as→∀f u v,σ.aT x≠ .c0 f u v)
 {next:Act→World→Prop} {Q:Exit→Act→World→Prop} (aH:∀av u w' rd',K av→a8 N aK aF R σ a w' rd' β→aP rd' β av u→next (a.put o.dst u) w'):o.wp P a w next Q:=by
 have fin:∀{f:Nat} {C:bq} {vs:Array Value} {as:List ag} {us:List Value} {ds pre post:List D} {KZ K0:List Value},my P aF f C→toDs σ as=some ds→bN rd β as us→bI rd pre KZ→bI rd post K0→
  vs.toList=KZ++us++K0→(execOp a.eval o).run P w= .ok (.enter f vs) w→C.pre (pre++ds++post)→((C.res (pre++ds++post)).flat=true∨ag.fO as=true)→K (cX (C.res (pre++ds++post)))→o.wp P a w next Q:=by
  intro f C vs as us ds pre post KZ K0 fE fX has Bp u5 rC aq aS Ca ad
  rcases Ca with p4|iJ
  ·have aC:=toDs_rep h (S:=hn β as) as us ds fX has fun i r aL hi dJ eI=>⟨i,r,hi,dJ,eI⟩
   refine uK fE aq (m:=plus w (hn β as) rd) (h.dd.trans (jH _ _ _)) (oo h.cJ) aS (by rw[rC];exact uy (uy (Bp.mono (jH _ _ _) _ _) aC) (u5.mono (jH _ _ _) _ _)) ?_
   intro v bW ar aA
   exact aH _ v bW rd ad (h.below ar) (Ns p4 aA.rep)
  ·have aC:=uG h iJ fX has
   refine uK fE aq h.dd h.cJ aS (by rw[rC];exact uy (uy Bp aC) u5) ?_
   intro v bW ar aA
   exact aH _ v bW _ ad (h.fresh ar) (ml aA.rep)
 have Sn:bI rd [] []:=by simp only[bI]
 cases bu:o.op with
 |call c=>
  rw[bu]at ae
  cases c with
  |mk callee args c2=>
   have gj:∀x dg as,dz P x=some dg→kD P c2.toList args.toList=some as→o.op= .call { callee:= .value x,args,argTypes:=c2 }→(∀f u v,σ.aT dg≠ .c0 f u v)→bj Γ σ K (.gj dg as)→o.wp P a w next Q:=by
    intro x dg as ah has bu iI ad
    have cL:=ef h ah
    simp only[bj]at ad
    split at ad
    ·rename_i f fst cap e
     rw[e]at cL
     simp only[aP,bn]at cL
     obtain⟨e8,vc,hu,bP,ca⟩:=cL
     split at ad
     ·rename_i ds C fX fE
      have b9:=cE f C fE
      exact fin b9 fX (nb h has) bP ca (by simp) (zQ bu hu b9.1) ad.1 ad.2.1 ad.2.2
     ·exact ad.elim
    ·rename_i e
     exact absurd e (iI _ _ _)
    ·exact ad.elim
   cases callee with
   |builtin b=>
    exfalso
    simp only[dm,nA,nd]at ae
    split at ae
    ·split at ae
     ·obtain⟨v,_,rfl⟩:=map_some ae;simp[bo.j7]at ao
     ·cases ae
    ·split at ae
     ·simp only[Option.some.injEq]at ae;subst ae;simp[bo.j7]at ao
     ·cases ae
    ·split at ae
     ·simp only[Option.some.injEq]at ae;subst ae;simp[bo.j7]at ao
     ·cases ae
    ·split at ae
     ·split at ae
      ·simp only[Option.some.injEq]at ae;subst ae;simp[bo.j7]at ao
      ·cases ae
     ·cases ae
    ·split at ae
     ·split at ae
      ·simp only[Option.some.injEq]at ae;subst ae;simp[bo.j7]at ao
      ·cases ae
     ·cases ae
    ·cases ae
   |invoke r m=>cases ae
   |value x=>
    simp only[dm,nA]at ae
    split at ae
    ·rename_i e;cases e
    ·rename_i f e
     simp only[Callee.value.injEq]at e
     subst e
     obtain⟨as,has,rfl⟩:=map_some ae
     simp only[bj]at ad
     split at ad
     ·rename_i ds C fX fE
      have b9:=cE f C fE
      exact fin (pre:=[]) (post:=[]) b9 fX (nb h has) Sn Sn (by simp) (Et bu b9.1) (by simpa using ad.1) (by simpa using ad.2.1) (by simpa using ad.2.2)
     ·exact ad.elim
    ·rename_i dg dX e
     simp only[Callee.value.injEq]at e
     subst e
     split at ae
     ·rename_i dg as ah has
      simp only[Option.some.injEq]at ae;subst ae
      exact gj _ _ _ ah has bu (iI _ _ rfl) ad
     ·cases ae
    ·cases ae
 |makeFunc f x y=>
  exfalso
  rw[bu]at ae
  cases f with
  |func f=>
   simp only[dm,nz]at ae
   split at ae
   ·simp only[Option.some.injEq]at ae;subst ae;simp[bo.j7]at ao
   ·cases ae
  |_=>cases ae
 |_=>
  exfalso
  rw[bu]at ae
  first
   |(cases ae;done)
   |(obtain⟨v,_,rfl⟩:=map_some ae;simp[bo.j7]at ao;done)
   |(have:=Option.some.inj ae;subst this;simp[bo.j7]at ao;done)
   |(simp only[dm,ng,nv,nw,ox,nF,nx,nm,nn,np,nq,oC,nr,ns,nG]at ae
     repeat' (split at ae)
     all_goals first
      |(cases ae;done)
      |(obtain⟨v,_,rfl⟩:=map_some ae;simp[bo.j7]at ao;done)
      |(simp only[Option.some.injEq]at ae;subst ae;simp[bo.j7]at ao;done))
end
end RV
namespace RV
open Go Go.RowKit
section
variable {N:Nat} {aK:dU} {aF:Mem} {R:bC} {σ σ':St} {a:Act} {w:World} {rd:Mem} {β β':bC} {P:Program} {Γ:Env}
def ho (w:World) (n sz:Nat):cY:=⟨w.heap.size,0,n,sz,true⟩
def eK (β:bC) (i:Nat) (r:Option cY):bC:=fun j=>if j=i then r else β j
theorem Nt (w:World) (arr:Array Value) (e:TypeId) (sz:Nat):kN (w.alloc (.cells arr e)) (ho w arr.size sz):=
 ⟨arr,e,(0,0),Array.getElem?_push_size,by simp[ho],fun o _ _=>by simp,fun _=>⟨rfl,rfl,rfl⟩⟩
theorem EJ (w:World) (arr:Array Value) (e:TypeId) (j:Nat):(w.alloc (.cells arr e)).cell? (cellAt w.heap.size j)=arr[j]? :=World.cell?_alloc_new _ _ _ _
theorem cA.oq {w':World} {b:Nat} :∀{cs:List ag} {vs:List Value} {o:Nat},bN rd β cs vs→(∀j,j<vs.length→w'.cell? (cellAt b (o+j))=vs[j]?)→cA w' rd β b o cs
 |[],_,_,_,_=>trivial
 |c::cs,vs,o,h,ao=>by
  simp only[bN]at h
  obtain⟨v,us,rfl,h1,h2⟩:=h
  refine⟨⟨v,by simpa using ao 0 (by simp),h1⟩,cA.oq h2 fun j az=> ?_⟩
  have:=ao (j+1) (by simpa using az)
  rw[show o+1+j=o+(j+1)by omega]
  simpa using this
mutual
theorem aP.ext (fI:∀j r,β j=some r→β' j=some r):∀(x:ag) (v:Value),aP rd β x v→aP rd β' x v
 | .d x,_,H=>by simpa only[aP]using H
 | .agg cs,_,H=>by
   simp only[aP]at*
   obtain⟨vs,e,H⟩:=H
   exact⟨vs,e,bN.ext fI cs _ H⟩
 | .box i _,_,H=>by
   simp only[aP]at*
   obtain⟨r,h1,h2⟩:=H
   exact⟨r,fI _ _ h1,h2⟩
 | .own i _ _,_,H=>by
   simp only[aP]at*
   obtain⟨A,cap,h1,h2,al⟩:=H
   exact⟨A,cap,h1,h2,al.imp id fun⟨r,br,bw⟩=>⟨r,fI _ _ br,bw⟩⟩
 | .dr i _ _,_,H=>by
   simp only[aP]at*
   obtain⟨r,h1,h2⟩:=H
   exact⟨r,fI _ _ h1,h2⟩
 | .c0 _ x y,_,H=>by
   simp only[aP]at*
   obtain⟨e8,vc,e,H1,et⟩:=H
   exact⟨e8,vc,e,bN.ext fI x _ H1,bN.ext fI y _ et⟩
 | .c6 _,_,H=>by simpa only[aP]using H
 | .c1,_,H=>by simpa only[aP]using H
 | .any,_,_=>by simp only[aP]
theorem bN.ext (fI:∀j r,β j=some r→β' j=some r):∀(xs:List ag) (vs:List Value),bN rd β xs vs→bN rd β' xs vs
 |[],_,H=>by simpa only[bN]using H
 |x::xs,_,H=>by
  simp only[bN]at*
  obtain⟨v,us,e,h1,h2⟩:=H
  exact⟨v,us,e,aP.ext fI x v h1,bN.ext fI xs us h2⟩
end
structure u6 (σ σ':St) (i:Nat) (b:b1) (rd:Mem) (β:bC) (f:ag→ag):Prop where
 rep:∀r x v,aP rd β x v→aP rd (eK β i r) (f x) v
 af:σ'.af=fun t=>f (σ.af t)
 aw:∀j,σ'.aw j=if j=i then some b else (σ.aw j).map (b1.fm f)
theorem pn (σ:St) (i:Nat) (b:b1):u6 σ (σ.fresh i b) i b rd β (ag.kill i):=
 ⟨fun r x v h=>aP.kill (fun j az=>by simp[eK,az]) h,rfl,fun j=>by
  simp only[St.fresh,kM]
  split
  ·rfl
  ·cases σ.aw j with
   |none=>rfl
   |some b=>simp[b1.xb]⟩
theorem ZX (h:a8 N aK aF R σ a w rd β) {i:Nat} (hi:σ.aw i=none) (b:b1):u6 σ (σ.dK i b) i b rd β (fun v=>v):=
 ⟨(fun r x v ah=>by
   have fI:β i=none:=by
    cases e:β i with
    |none=>rfl
    |some r=>obtain⟨b,ar,_⟩:=h.box i r e;rw[hi]at ar;cases ar
   refine aP.ext (fun j r' az=> ?_) _ _ ah
   by_cases e:j=i
   ·subst e;rw[fI]at az;cases az
   ·simpa [eK,e]using az),rfl,fun j=>by
   simp only[St.dK,kM]
   split
   ·rfl
   ·cases σ.aw j with
    |none=>rfl
    |some b=>simp[b1.acx]⟩
theorem E4 (h:a8 N aK aF R σ a w rd β) {i:Nat} {cs:List ag} {arr:Array Value} {e:TypeId} {f:ag→ag} (aq:u6 σ σ' i ⟨false,false,.cells cs⟩ rd β f)
 (eO:bN rd (eK β i (some (ho w arr.size 1))) cs arr.toList):
 a8 N aK aF R σ' a (w.alloc (.cells arr e)) rd (eK β i (some (ho w arr.size 1))):=by
 refine h.new (i:=i) (b:=⟨false,false,.cells cs⟩) rfl (r:=ho w arr.size 1) rfl rfl (aq.rep _) aq.af aq.aw ?_ (Nt _ _ _ _)
 refine⟨by have:=qF eO;simp at this;simp[ho,this],?_⟩
 refine cA.oq eO fun j az=> ?_
 show (w.alloc (.cells arr e)).cell? (cellAt w.heap.size (0+j))=_
 rw[Nat.zero_add,EJ,Array.getElem?_toList]
theorem fb.wZ {m:Mem} {k:IntKind} {b:Nat} :∀{xs:List Int} {o:Nat},(∀j x,xs[j]? =some x→m (cellAt b (o+j))=some (.int k x))→fb m k b o xs
 |[],_,_=>trivial
 |x::xs,o,h=>⟨by simpa using h 0 x rfl,fb.wZ fun j y az=>by
   have:=h (j+1) y (by simpa using az)
   rw[show o+1+j=o+(j+1)by omega];exact this⟩
theorem fk.wZ {m:Mem} {b:Nat} :∀{xs:List Nat} {o:Nat},(∀j x,xs[j]? =some x→∃y,m (cellAt b (o+j))=some (.float .f64 y)∧fG y=x)→fk m b o xs
 |[],_,_=>trivial
 |x::xs,o,h=>⟨by simpa using h 0 x rfl,fk.wZ fun j y az=>by
   have:=h (j+1) y (by simpa using az)
   rw[show o+1+j=o+(j+1)by omega];exact this⟩
theorem cD.oq {w':World} {b:Nat} :∀{ds:List D} {vs:List Value} {o:Nat},bI rd ds vs→(∀j v,vs[j]? =some v→w'.cell? (cellAt b (o+j))=some v)→cD w' rd b o ds
 |[],_,_,_,_=>trivial
 |d::ds,vs,o,h,ao=>by
  simp only[bI]at h
  obtain⟨v,us,rfl,h1,h2⟩:=h
  refine⟨⟨v,by simpa using ao 0 v rfl,h1⟩,cD.oq h2 fun j u az=> ?_⟩
  have:=ao (j+1) u (by simpa using az)
  rw[show o+1+j=o+(j+1)by omega];exact this
theorem gh.replicate {w':World} {b sz:Nat} {z:List D} (bg:z.length=sz):∀{n o:Nat},(∀q,q<n→cD w' rd b (o+q*sz) z)→gh w' rd b sz o (List.replicate n z)
 |0,_,_=>trivial
 |n+1,o,h=>by
  rw[List.replicate_succ]
  refine⟨bg,by simpa using h 0 (by omega),gh.replicate bg fun q aZ=> ?_⟩
  have:=h (q+1) (by omega)
  rw[show o+sz+q*sz=o+(q+1)*sz by rw[Nat.succ_mul];omega];exact this
theorem aa5 {z:Array Value} {n size j:Nat} {v:Value} (ay:z.size=size) (az:j<n*size) (aA:z[j % size]? =some v):((Array.range (n*size)).map (z[· % z.size]!))[j]? =some v:=by
 have bp:j % size<z.size:=by
  rcases Nat.lt_or_ge (j % size) z.size with h|h
  ·exact h
  ·rw[Array.getElem?_eq_none h]at aA;cases aA
 rw[Array.getElem?_map,Array.getElem?_range]
 simp only[az,if_true,Option.map_some,Option.some.injEq,ay]
 rw[getElem!_pos z _ bp]
 rw[Array.getElem?_eq_getElem bp]at aA
 simpa using aA
theorem aa6 {ek:dL} {z:List D} {zs:Array Value} {n:Nat} {c:BC} (ao:ni ek z n=some c) (bg:bI rd z zs.toList) (eN:zs.size=ek.sz) {w':World} {r:cY} (aq:r.sz=ek.sz) (aB:n*ek.sz≤r.len)
 (gl:∀j v,j<n*ek.sz→zs[j % ek.sz]? =some v→w'.cell? (cellAt r.bS (r.off+j))=some v):ey w' rd β r c:=by
 unfold ni at ao
 split at ao
 ·rename_i k dM
  split at ao
  ·rename_i ad
   subst ad
   simp only[Option.some.injEq]at ao;subst ao
   simp only[bI,bn]at bg
   obtain⟨v,us,aA,rfl,rfl⟩:=bg
   simp only[dL.sz]at*
   refine⟨aq,by simpa using aB,fb.wZ fun j x az=> ?_⟩
   have bp:j<n:=by
    rcases Nat.lt_or_ge j n with h|h
    ·exact h
    ·rw[List.getElem?_eq_none (by simpa using h)]at az;cases az
   rw[List.getElem?_replicate]at az
   simp only[bp,if_true,Option.some.injEq]at az
   subst az
   refine gl j _ (by omega) ?_
   rw[Nat.mod_one,←Array.getElem?_toList,aA];rfl
  ·cases ao
 ·simp only[Option.some.injEq]at ao;subst ao
  simp only[bI,bn]at bg
  obtain⟨v,us,aA,⟨y,rfl,hy⟩,rfl⟩:=bg
  simp only[dL.sz]at*
  refine⟨aq,by simpa using aB,fk.wZ fun j x az=> ?_⟩
  have bp:j<n:=by
   rcases Nat.lt_or_ge j n with h|h
   ·exact h
   ·rw[List.getElem?_eq_none (by simpa using h)]at az;cases az
  rw[List.getElem?_replicate]at az
  simp only[bp,if_true,Option.some.injEq]at az
  subst az
  refine⟨y,gl j _ (by omega) ?_,hy⟩
  rw[Nat.mod_one,←Array.getElem?_toList,aA];rfl
 ·rename_i sz
  split at ao
  ·rename_i Cb
   simp only[Option.some.injEq]at ao;subst ao
   simp only[dL.sz]at*
   refine⟨aq,by simpa using aB,gh.replicate Cb fun q aZ=> ?_⟩
   refine cD.oq bg fun j v az=> ?_
   have vC:j<sz:=by
    rcases Nat.lt_or_ge j sz with h|h
    ·exact h
    ·rw[List.getElem?_eq_none (by simp[eN];exact h)]at az;cases az
   have bp:q*sz+j<n*sz:=by
    have:(q+1)*sz≤n*sz:=Nat.mul_le_mul_right _ aZ
    rw[Nat.succ_mul]at this;omega
   have:=gl (q*sz+j) v bp (by
    rw[Nat.mul_comm,Nat.mul_add_mod,Nat.mod_eq_of_lt vC,←Array.getElem?_toList];exact az)
   rw[Nat.add_assoc];exact this
  ·cases ao
 ·cases ao
theorem E5 (h:a8 N aK aF R σ a w rd β) {i:Nat} {c:BC} {arr:Array Value} {e:TypeId} {sz:Nat} {f:ag→ag} (aq:u6 σ σ' i ⟨false,false,c⟩ rd β f)
 (ao:ey (w.alloc (.cells arr e)) rd (eK β i (some (ho w arr.size sz))) (ho w arr.size sz) c):
 a8 N aK aF R σ' a (w.alloc (.cells arr e)) rd (eK β i (some (ho w arr.size sz))):=
 h.new (i:=i) (b:=⟨false,false,c⟩) rfl (r:=ho w arr.size sz) rfl rfl (aq.rep _) aq.af aq.aw ao (Nt _ _ _ _)
theorem OX (h:a8 N aK aF R σ a w rd β) {i:Nat} {c:BC} {f:ag→ag} (aq:u6 σ σ' i ⟨false,false,c⟩ rd β f) (aH:c.isNil=true):a8 N aK aF R σ' a w rd (eK β i none):=
 h.PZ (i:=i) (b:=⟨false,false,c⟩) rfl aH (aq.rep _) aq.af aq.aw
end
end RV
namespace RV
open Go Go.RowKit
def BC.dY:BC→Nat
 | .cells _=>0
 | .recs sz _=>sz
 |_=>1
def BC.elems:BC→List D
 | .cells _=>[]
 | .ints k xs=>xs.map (.int k)
 | .flts xs=>xs.map .flt
 | .recs _ xs=>xs.flatten
def BC.wf:BC→Prop
 | .recs sz xs=>∀r∈xs,r.length=sz
 |_=>True
def BC.arr:BC→Bool
 | .cells _=>false
 |_=>true
def D.qt:D→Option BC
 | .ints k xs=>some (.ints k xs)
 | .flts xs=>some (.flts xs)
 | .recs sz xs=>some (.recs sz xs)
 |_=>none
theorem zy {α:Type} {sz:Nat} :∀{xs:List (List α)},(∀r∈xs,r.length=sz)→xs.flatten.length=xs.length*sz
 |[],_=>by simp
 |x::xs,h=>by
  rw[List.flatten_cons,List.length_append,zy fun r aq=>h r (by simp[aq]),h x (by simp),List.length_cons,Nat.succ_mul,Nat.add_comm]
theorem DS {α:Type} {sz:Nat} :∀{xs:List (List α)} (n:Nat),(∀r∈xs,r.length=sz)→(xs.take n).flatten=xs.flatten.take (n*sz)
 |[],n,_=>by simp
 |x::xs,0,_=>by simp
 |x::xs,n+1,h=>by
  rw[List.take_succ_cons,List.flatten_cons,List.flatten_cons,DS n fun r aq=>h r (by simp[aq]),List.take_append]
  have:=h x (by simp)
  rw[List.take_of_length_le (l:=x) (by rw[this,Nat.succ_mul];omega),this,show (n+1)*sz - sz=n*sz by rw[Nat.succ_mul];omega]
theorem LN {α:Type} {sz:Nat} :∀{xs:List (List α)} (n:Nat),(∀r∈xs,r.length=sz)→(xs.drop n).flatten=xs.flatten.drop (n*sz)
 |[],n,_=>by simp
 |x::xs,0,_=>by simp
 |x::xs,n+1,h=>by
  rw[List.drop_succ_cons,List.flatten_cons,LN n fun r aq=>h r (by simp[aq]),List.drop_append]
  have:=h x (by simp)
  rw[List.drop_of_length_le (l:=x) (by rw[this,Nat.succ_mul];omega),this,show (n+1)*sz - sz=n*sz by rw[Nat.succ_mul];omega,List.nil_append]
theorem zC {c:BC} (h:c.wf) (a2:c.arr=true):c.elems.length=c.count*c.dY:=by
 cases c with
 |cells cs=>cases a2
 |ints k xs=>simp[BC.elems,BC.count,BC.dY]
 |flts xs=>simp[BC.elems,BC.count,BC.dY]
 |recs sz xs=>exact zy h
section
variable {N:Nat} {aK:dU} {aF:Mem} {R:bC} {σ σ':St} {a:Act} {w w':World} {rd:Mem} {β β':bC} {P:Program} {Γ:Env}
theorem cA.append {b:Nat} :∀{xs ax:List ag} {o:Nat},cA w rd β b o (xs++ax)↔cA w rd β b o xs∧cA w rd β b (o+xs.length) ax
 |[],ax,o=>by simp[cA]
 |x::xs,ax,o=>by
  simp only[List.cons_append,cA,cA.append (xs:=xs),List.length_cons]
  rw[show o+1+xs.length=o+(xs.length+1)by omega,and_assoc]
theorem cD.iff {b:Nat} :∀{ds:List D} {o:Nat},cD w rd b o ds↔cA w rd β b o (ds.map .d)
 |[],_=>by simp[cD,cA]
 |d::ds,o=>by simp only[cD,cA,List.map_cons,cD.iff (ds:=ds),aP]
theorem cD.append {b:Nat} :∀{xs ax:List D} {o:Nat},cD w rd b o (xs++ax)↔cD w rd b o xs∧cD w rd b (o+xs.length) ax
 |[],ax,o=>by simp[cD]
 |x::xs,ax,o=>by
  simp only[List.cons_append,cD,cD.append (xs:=xs),List.length_cons]
  rw[show o+1+xs.length=o+(xs.length+1)by omega,and_assoc]
theorem cD.ints {b:Nat} {k:IntKind} :∀{xs:List Int} {o:Nat},fb w.cell? k b o xs↔cD w rd b o (xs.map (.int k))
 |[],_=>by simp[cD,fb]
 |x::xs,o=>by
  simp only[fb,List.map_cons,cD,bn,cD.ints (xs:=xs)]
  constructor
  ·rintro⟨h1,h2⟩;exact⟨⟨_,h1,rfl⟩,h2⟩
  ·rintro⟨⟨u,h1,rfl⟩,h2⟩;exact⟨h1,h2⟩
theorem cD.flts {b:Nat} :∀{xs:List Nat} {o:Nat},fk w.cell? b o xs↔cD w rd b o (xs.map .flt)
 |[],_=>by simp[cD,fk]
 |x::xs,o=>by
  simp only[fk,List.map_cons,cD,bn,cD.flts (xs:=xs)]
  constructor
  ·rintro⟨⟨y,h1,e⟩,h2⟩;exact⟨⟨_,h1,y,rfl,e⟩,h2⟩
  ·rintro⟨⟨u,h1,y,rfl,e⟩,h2⟩;exact⟨⟨y,h1,e⟩,h2⟩
theorem cD.rows {b sz:Nat} :∀{xs:List (List D)} {o:Nat},gh w rd b sz o xs↔(∀r∈xs,r.length=sz)∧cD w rd b o xs.flatten
 |[],_=>by simp[cD,gh]
 |x::xs,o=>by
  simp only[gh,List.flatten_cons,cD.append,cD.rows (xs:=xs),List.mem_cons,forall_eq_or_imp]
  constructor
  ·rintro⟨rfl,h2,al,aE⟩;exact⟨⟨rfl,al⟩,h2,aE⟩
  ·rintro⟨⟨rfl,al⟩,h2,aE⟩;exact⟨rfl,h2,al,aE⟩
theorem ey.elems {r:cY} {c:BC} (a2:c.arr=true):ey w rd β r c↔r.sz=c.dY∧c.count*c.dY≤r.len∧c.wf∧cD w rd r.bS r.off c.elems:=by
 cases c with
 |cells cs=>cases a2
 |ints k xs=>simp only[ey,BC.dY,BC.count,BC.wf,BC.elems,true_and,Nat.mul_one];rw[cD.ints]
 |flts xs=>simp only[ey,BC.dY,BC.count,BC.wf,BC.elems,true_and,Nat.mul_one];rw[cD.flts]
 |recs sz xs=>simp only[ey,BC.dY,BC.count,BC.wf,BC.elems];rw[cD.rows]
theorem cD.xK {b:Nat} :∀{ds:List D} {o:Nat},cD w rd b o ds→∃us:List Value,bI rd ds us∧us.length=ds.length∧∀j x,us[j]? =some x→w.cell? (cellAt b (o+j))=some x
 |[],_,_=>⟨[],by simp only[bI],rfl,by simp⟩
 |d::ds,o,⟨⟨u,h1,h2⟩,al⟩=>by
  obtain⟨us,br,bw,c3⟩:=cD.xK al
  refine⟨u::us,by simp only[bI];exact⟨u,us,rfl,h2,br⟩,by simp[bw],fun j x az=> ?_⟩
  cases j with
  |zero=>simp only[List.getElem?_cons_zero,Option.some.injEq]at az;subst az;exact h1
  |succ j=>rw[show o+(j+1)=o+1+j by omega];exact c3 j x (by simpa using az)
theorem cA.write {b o p:Nat} {xs vs:List ag} (h:cA w rd β b o xs) (aS:p+vs.length≤xs.length) (aA:cA w' rd β b (o+p) vs)
 (fH:∀k,¬(o+p≤k∧k<o+p+vs.length)→w'.cell? (cellAt b k)=w.cell? (cellAt b k)):
 cA w' rd β b o (xs.take p++vs++xs.drop (p+vs.length)):=by
 have aB:(xs.take p).length=p:=by rw[List.length_take];omega
 rw[cA.append,cA.append,aB,List.length_append,aB]
 refine⟨⟨?_,aA⟩,?_⟩
 ·exact(h.take p).mono (fun i h1 h2=>fH i (by rw[aB]at h2;omega)) (fun _ _ _ H=>H)
 ·rw[show o+(p+vs.length)=o+(p+vs.length)from rfl]
  exact(h.drop (p+vs.length)).mono (fun i h1 h2=>fH i (by omega)) (fun _ _ _ H=>H)
theorem cD.write {b o p:Nat} {xs vs:List D} (h:cD w rd b o xs) (aS:p+vs.length≤xs.length) (aA:cD w' rd b (o+p) vs)
 (fH:∀k,¬(o+p≤k∧k<o+p+vs.length)→w'.cell? (cellAt b k)=w.cell? (cellAt b k)):
 cD w' rd b o (xs.take p++vs++xs.drop (p+vs.length)):=by
 have:=cA.write (w':=w') (p:=p) ((cD.iff (β:=fun _=>none)).1 h) (vs:=vs.map .d) (by simpa using aS) (cD.iff.1 aA) (by simpa using fH)
 rw[cD.iff (β:=fun _=>none)]
 simpa [List.map_take,List.map_drop]using this
theorem ZG {b k:Nat} {arr:Array Value} {t:TypeId} {cd:Nat×Nat} (hw:w.heap[b]? =some (.cells arr t cd)) (v:Value):
 w.setCell ⟨b,k,none⟩ v= { w with heap:=w.heap.setIfInBounds b (.cells (arr.setIfInBounds k v) t cd) } :=by
 unfold World.setCell
 congr 1
 apply Array.ext_getElem?
 intro j
 rw[Array.getElem?_modify]
 by_cases e:b=j
 ·subst e
  have bp:=(Array.getElem?_eq_some_iff.1 hw).1
  rw[Array.getElem?_setIfInBounds_self_of_lt bp,if_pos rfl,hw]
  simp
 ·rw[Array.getElem?_setIfInBounds_ne e,if_neg e]
theorem LD {b:Nat} {t:TypeId} {cd:Nat×Nat} :∀(vs:List Value) (o:Nat) {w:World} {arr:Array Value},w.heap[b]? =some (.cells arr t cd)→
 ∃ij,w.setCells b o vs= { w with heap:=w.heap.setIfInBounds b (.cells ij t cd) }∧ij.size=arr.size∧∀k,¬(o≤k∧k<o+vs.length)→ij[k]? =arr[k]?
 |[],o,w,arr,hw=>⟨arr,by
    have bp:=(Array.getElem?_eq_some_iff.1 hw).1
    rw[World.setCells]
    have:w.heap.setIfInBounds b (.cells arr t cd)=w.heap:=by
     apply Array.ext_getElem?
     intro j
     by_cases e:b=j
     ·subst e;rw[Array.getElem?_setIfInBounds_self_of_lt bp,hw]
     ·rw[Array.getElem?_setIfInBounds_ne e]
    rw[this],rfl,fun _ _=>rfl⟩
 |v::vs,o,w,arr,hw=>by
  have bp:=(Array.getElem?_eq_some_iff.1 hw).1
  have ay:=ZG (k:=o) hw v
  obtain⟨ij,h1,h2,al⟩:=LD vs (o+1) (w:=w.setCell ⟨b,o,none⟩ v) (arr:=arr.setIfInBounds o v) (by rw[ay];exact Array.getElem?_setIfInBounds_self_of_lt bp)
  refine⟨ij,?_,by simpa using h2,fun k ad=> ?_⟩
  ·rw[World.setCells,h1,ay]
   simp
  ·rw[al k (by simp at ad;omega),Array.getElem?_setIfInBounds_ne (by simp at ad;omega)]
theorem a8.write (h:a8 N aK aF R σ a w rd β) {i:Nat} {r:cY} (hi:β i=some r) {e:Bool} {c:BC} (ah:σ.aw i=some ⟨false,e,c⟩) {vs:List Value} {p:Nat} (aS:p+vs.length≤r.len) (h1:∀v∈vs,v.oneCell'=true):
 ∃w',(storeCells (cellAt r.bS (r.off+p)) vs).run P w= .ok () w'∧(∀c',ey w' rd β r c'→a8 N aK aF R (σ.dK i ⟨false,e,c'⟩) a w' rd β)∧
  (∀j v,vs[j]? =some v→w'.cell? (cellAt r.bS (r.off+p+j))=some v)∧(∀k,¬(r.off+p≤k∧k<r.off+p+vs.length)→w'.cell? (cellAt r.bS k)=w.cell? (cellAt r.bS k)):=by
 obtain⟨b,vz,ao,⟨arr,t,cd,hw,eN,hfz,_⟩,_⟩:=h.box i r hi
 have gl:∀j,j<vs.length→(w.cell? (cellAt r.bS (r.off+p+j))).isSome=true:=fun j az=>by
  simp only[World.cell?,cellAt,hw]
  simp;omega
 have B9:∀j,j<vs.length→w.frozen? (cellAt r.bS (r.off+p+j))=false:=fun j az=>by
  have:=hfz (r.off+p+j) (by omega) (by omega)
  have e:w.heap[(cellAt r.bS (r.off+p+j)).block]? =some (.cells arr t cd):=hw
  simp only[World.frozen?,e]
  show (decide (cd.1≤r.off+p+j) && decide (r.off+p+j<cd.2))=false
  rw[Bool.and_eq_false_iff,decide_eq_false_iff_not,decide_eq_false_iff_not]
  omega
 have nI:=run_storeCells_cells (P:=P) r.bS (r.off+p) vs 0 w (by simpa [cellAt]using gl) (by simpa [cellAt]using B9) h1
 obtain⟨ij,f1,f2,f3⟩:=LD vs (r.off+p) hw
 refine⟨w.setCells r.bS (r.off+p) vs,by simpa [cellAt]using nI,fun c' ct=> ?_,fun j v az=> ?_,fun k ad=> ?_⟩
 ·rw[f1]at ct⊢
  exact h.store hi ah hw f2 (fun k ad=>f3 k (by omega)) ct
 ·have bp:j<vs.length:=(List.getElem?_eq_some_iff.1 az).1
  have:=World.cell?_setCells_in r.bS vs (r.off+p) w (by simpa [cellAt]using gl) j bp
  rw[cellAt,this,←az,List.getElem?_eq_getElem bp]
 ·exact World.cell?_setCells_out r.bS vs (r.off+p) w (cellAt r.bS k) (fun _ _=>by simp only[cellAt];omega)
end
end RV
