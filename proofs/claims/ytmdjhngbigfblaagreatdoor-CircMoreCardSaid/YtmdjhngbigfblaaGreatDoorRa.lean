/- Lemmas for a claim: an abstract machine for the translated code, proved sound, and contracts of functions. By an AI agent. -/
import Derived.Orders
import Derived.Below
import Derived.KernelRfl
import Derived.OwnWalk
import Derived.IntWalk
import Derived.Laws.IdiomCopy
set_option linter.all false
namespace RV
open Go
def HA:Nat:=0x7ff8000000000001
def g6 (b:Nat):Nat:=if (Ieee.double.read b).isNaN then HA else b
inductive D where
 |bool (b:Bool)
 |int (k:IntKind) (n:Int)
 |flt (x:Nat)
 |ints (k:IntKind) (xs:List Int)
 |flts (xs:List Nat)
 |recs (sz:Nat) (xs:List (List D))
 |ptr (cs:List D)
 |agg (cs:List D)
 |fh (ds:List D)
 |fn (f:Nat) (fst cap:List D)
 |nilfn
 |nilp
 deriving Inhabited
abbrev Mem:=Addr→Option Value
def cellAt (b o:Nat):Addr:=⟨b,o,none⟩
def gp (rd:Mem) (k:IntKind) (b:Nat):Nat→List Int→Prop
 |_,[]=>True
 |o,x::xs=>rd (cellAt b o)=some (.int k x)∧gp rd k b (o+1) xs
def gG (rd:Mem) (b:Nat):Nat→List Nat→Prop
 |_,[]=>True
 |o,x::xs=>(∃y,rd (cellAt b o)=some (.float .f64 y)∧g6 y=x)∧gG rd b (o+1) xs
mutual
def bA (rd:Mem):D→Value→Prop
 | .bool b,v=>v= .bool b
 | .int k n,v=>v= .int k n
 | .flt x,v=>∃y,v= .float .f64 y∧g6 y=x
 | .ints k xs,v=>∃A cap,v= .slice A xs.length cap∧xs.length≤cap∧(xs=[]∨∃b o,A=some (cellAt b o)∧gp rd k b o xs)
 | .flts xs,v=>∃A cap,v= .slice A xs.length cap∧xs.length≤cap∧(xs=[]∨∃b o,A=some (cellAt b o)∧gG rd b o xs)
 | .recs sz xs,v=>∃A cap,v= .slice A xs.length cap∧xs.length≤cap∧(xs=[]∨∃b o,A=some (cellAt b o)∧gq rd b sz o xs)
 | .ptr cs,v=>∃b o,v= .pointer (some (cellAt b o))∧fT rd b o cs
 | .agg cs,v=>∃vs,v= .agg vs∧bV rd cs vs.toList
 | .fh ds,v=>∃vs,v= .tuple vs∧bV rd ds vs.toList
 | .fn f fst cap,v=>∃gi vc,v= .func (.func f) gi vc∧bV rd fst gi.toList∧bV rd cap vc.toList
 | .nilfn,v=>v= .nilFunc
 | .nilp,v=>v= .pointer none
def bV (rd:Mem):List D→List Value→Prop
 |[],vs=>vs=[]
 |d::ds,vs=>∃v us,vs=v::us∧bA rd d v∧bV rd ds us
def fT (rd:Mem) (b:Nat):Nat→List D→Prop
 |_,[]=>True
 |o,d::ds=>(∃v,rd (cellAt b o)=some v∧bA rd d v)∧fT rd b (o+1) ds
def gq (rd:Mem) (b sz:Nat):Nat→List (List D)→Prop
 |_,[]=>True
 |o,r::rs=>r.length=sz∧fT rd b o r∧gq rd b sz (o+sz) rs
end
def b7 (r r':Mem):Prop:=∀a v,r a=some v→r' a=some v
theorem b7.refl (r:Mem):b7 r r:=fun _ _ h=>h
theorem b7.trans {a b c:Mem} (h:b7 a b) (k:b7 b c):b7 a c:=fun x v aj=>k x v (h x v aj)
theorem gp.mono {r r':Mem} (h:b7 r r') {k b} :∀{o xs},gp r k b o xs→gp r' k b o xs
 |_,[],_=>trivial
 |_,_::_,⟨h1,h2⟩=>⟨h _ _ h1,gp.mono h h2⟩
theorem gG.mono {r r':Mem} (h:b7 r r') {b} :∀{o xs},gG r b o xs→gG r' b o xs
 |_,[],_=>trivial
 |_,_::_,⟨⟨y,h1,e⟩,h2⟩=>⟨⟨y,h _ _ h1,e⟩,gG.mono h h2⟩
mutual
theorem bA.mono {r r':Mem} (h:b7 r r'):∀(d:D) (v:Value),bA r d v→bA r' d v
 | .bool _,_,H=>by simpa only[bA]using H
 | .int _ _,_,H=>by simpa only[bA]using H
 | .flt _,_,H=>by simpa only[bA]using H
 | .ints _ _,_,H=>by
   simp only[bA]at*
   obtain⟨A,c,e,l,H⟩:=H
   exact⟨A,c,e,l,H.imp id fun⟨b,o,e,H⟩=>⟨b,o,e,H.mono h⟩⟩
 | .flts _,_,H=>by
   simp only[bA]at*
   obtain⟨A,c,e,l,H⟩:=H
   exact⟨A,c,e,l,H.imp id fun⟨b,o,e,H⟩=>⟨b,o,e,H.mono h⟩⟩
 | .recs sz xs,_,H=>by
   simp only[bA]at*
   obtain⟨A,c,e,l,H⟩:=H
   exact⟨A,c,e,l,H.imp id fun⟨b,o,e,H⟩=>⟨b,o,e,gq.mono h xs o H⟩⟩
 | .ptr cs,_,H=>by
   simp only[bA]at*
   obtain⟨b,o,e,H⟩:=H
   exact⟨b,o,e,fT.mono h cs o H⟩
 | .agg cs,_,H=>by
   simp only[bA]at*
   obtain⟨vs,e,H⟩:=H
   exact⟨vs,e,bV.mono h cs _ H⟩
 | .fh cs,_,H=>by
   simp only[bA]at*
   obtain⟨vs,e,H⟩:=H
   exact⟨vs,e,bV.mono h cs _ H⟩
 | .fn _ a b,_,H=>by
   simp only[bA]at*
   obtain⟨gi,vc,e,H,aq4⟩:=H
   exact⟨gi,vc,e,bV.mono h a _ H,bV.mono h b _ aq4⟩
 | .nilfn,_,H=>by simpa only[bA]using H
 | .nilp,_,H=>by simpa only[bA]using H
theorem bV.mono {r r':Mem} (h:b7 r r'):∀(ds:List D) (vs:List Value),bV r ds vs→bV r' ds vs
 |[],_,H=>by simpa only[bV]using H
 |d::ds,_,H=>by
  simp only[bV]at*
  obtain⟨v,us,e,h1,h2⟩:=H
  exact⟨v,us,e,bA.mono h d v h1,bV.mono h ds us h2⟩
theorem fT.mono {r r':Mem} (h:b7 r r') {b:Nat} :∀(ds:List D) (o:Nat),fT r b o ds→fT r' b o ds
 |[],_,_=>by simp only[fT]
 |d::ds,o,H=>by
  simp only[fT]at*
  obtain⟨⟨v,e,h1⟩,h2⟩:=H
  exact⟨⟨v,h _ _ e,bA.mono h d v h1⟩,fT.mono h ds _ h2⟩
theorem gq.mono {r r':Mem} (h:b7 r r') {b sz:Nat} :∀(rs:List (List D)) (o:Nat),gq r b sz o rs→gq r' b sz o rs
 |[],_,_=>by simp only[gq]
 |d::ds,o,H=>by
  simp only[gq]at*
  exact⟨H.1,fT.mono h d o H.2.1,gq.mono h ds _ H.2.2⟩
end
inductive bB where
 |t (n:Nat)
 |c (d:D)
 deriving Inhabited
inductive ai where
 |d (x:D)
 |agg (cs:List ai)
 |box (i off:Nat)
 |own (i lo n:Nat)
 |ea (i j off:Nat)
 |dr (f:Nat) (fst cap:List ai)
 |dF (l:Nat)
 |dt
 |any
 deriving Inhabited
inductive eG where
 |ints (k:IntKind)
 |flts
 |recs (sz:Nat)
def eG.sz:eG→Nat
 | .recs sz=>sz
 |_=>1
inductive BC where
 |cells (cs:List ai)
 |ints (k:IntKind) (xs:List Int)
 |flts (xs:List Nat)
 |recs (sz:Nat) (xs:List (List D))
structure cr where
 cE:Bool
 ext:Bool
 c:BC
structure St where
 ag:Nat→ai
 az:Nat→Option cr
def ai.pair:ai→Option (Int×Int)
 | .d (.agg [.int .i64 a,.int .i64 b])=>some (a,b)
 | .agg [.d (.int .i64 a),.d (.int .i64 b)]=>some (a,b)
 |_=>none
inductive bJ where
 |bj (x:bB)
 |pick (c a b:bB)
 |load (n:Nat) (g:Bool) (x:bB)
 |xV (x:bB)
 |bin (op:BinOp) (x y:bB)
 |qW (ne:Bool) (x y:bB)
 |w1 (ne:Bool) (x y:bB)
 |un (op:UnOp) (x:bB)
 |conv (k:IntKind) (x:bB)
 |wJ (x:bB)
 |dD (off:Nat) (x:bB)
 |zI (off n:Nat) (g:Bool) (x:bB)
 |u4 (sz:Nat) (x i:bB)
 |y8 (len sz:Nat) (x i:bB)
 |idx (len n:Nat) (g:Bool) (x i:bB)
 |sr (i:Nat) (x:bB)
 |len (x:bB)
 |pS (x y:bB)
 |Ak (x y:bB)
 |zJ (sz:Nat) (x:bB) (lo hi:Option bB)
 |build (zero:List D) (parts:List (Nat×Nat×bB))
 |hU (ek:eG) (parts:List bB)
 |zh (f:Nat) (fst cap:List bB)
 |call (f:Nat) (args:List bB)
 |hS (x:bB) (args:List bB)
 |alloc (zero:List D)
 |box (x:bB)
 |rq (ek:eG) (zero:List D) (len:bB)
 |nil (ek:eG)
 |store (n:Nat) (a x:bB)
 |app (ek:eG) (x y:bB)
 |copy (ek:eG) (x y:bB)
 |y9 (x:bB)
 |bad
structure bW where
 dst:Option Nat
 op:bJ
 guard:Option (Nat×Bool)
inductive ay where
 |skip
 |cR (ops:List bW)
 |kd (pre:List (bW×List Nat)) (w2:List bW)
 |seq (a b:ay)
 |cond (c:bB) (a b:ay)
 |block (id:Nat) (a:ay)
 |loop (a:ay)
 |exit (id:Nat)
 |ret
inductive bx where
 |tmp (t:Nat)
 |cell (t n:Nat) (g:Bool)
structure bC where
 pre:List D→Prop
 res:List D→D
 own:Bool:=false
structure hg where
 pre:List ai→List BC→Prop
 res:List ai→List BC→D
 out:List ai→List BC→List BC
structure Env where
 fn:Nat→Option bC
 mt:Nat→Option hg
def aO (z:Int):Prop:= -9223372036854775808≤z∧z≤9223372036854775807
def arith (k:IntKind) (z:Int) (K:ai→Prop):Prop:=
 match k with
 | .i64=>aO z∧K (.d (.int .i64 z))
 |k=>K (.d (.int k (k.wrap z)))
def lb (k:IntKind) (x y:Int):Int:=k.wrap (BitVec.ofInt k.bits x &&& BitVec.ofInt k.bits y).toNat
def Ig (k:IntKind) (x y:Int):Int:=k.wrap (BitVec.ofInt k.bits x|||BitVec.ofInt k.bits y).toNat
def adz (k:IntKind) (x y:Int):Int:=k.wrap (BitVec.ofInt k.bits x^^^BitVec.ofInt k.bits y).toNat
def Z5 (k:IntKind) (x y:Int):Int:=k.wrap (BitVec.ofInt k.bits x &&& ~~~ BitVec.ofInt k.bits y).toNat
def w3 (r:Option Nat):Nat:=match r with|some r=>g6 r|none=>HA
def adA (x y:Nat):Nat:=w3 (Ieee.double.add x y)
def adB (x y:Nat):Nat:=w3 (Ieee.double.sub x y)
def adC (x y:Nat):Nat:=w3 (Ieee.double.mul x y)
def fdiv (x y:Nat):Nat:=w3 (Ieee.double.div x y)
def LI (x:Nat):Nat:=g6 (Op.negFloat .f64 x)
def flt (x y:Nat):Bool:=Ieee.double.order x y==some .lt
def Mx (x y:Nat):Bool:=Ieee.double.order x y==some .eq
def afp (x y:Nat):Bool:=Ieee.double.order x y==some .lt||Ieee.double.order x y==some .eq
def afq (x y:Nat):Bool:=Ieee.double.order x y==some .gt
def afr (x y:Nat):Bool:=Ieee.double.order x y==some .gt||Ieee.double.order x y==some .eq
def aa5 (n:Int):Nat:=g6 (FloatKind.f64.nearest n)
def Bp (op:BinOp) (k:IntKind) (x y:Int) (K:ai→Prop):Prop:=
 match op with
 | .add=>arith k (x+y) K
 | .sub=>arith k (x - y) K
 | .mul=>arith k (x*y) K
 | .quo=>y≠0∧arith k (x.tdiv y) K
 | .rem=>y≠0∧K (.d (.int k (x.tmod y)))
 | .and=>K (.d (.int k (lb k x y)))
 | .or=>K (.d (.int k (Ig k x y)))
 | .xor=>K (.d (.int k (adz k x y)))
 | .andNot=>K (.d (.int k (Z5 k x y)))
 | .shl=>0≤y∧arith k (x*2^(min y.toNat k.bits)) K
 | .shr=>0≤y∧K (.d (.int k (x.fdiv (2^(min y.toNat k.bits)))))
 | .eql=>K (.d (.bool (x==y)))
 | .neq=>K (.d (.bool (x !=y)))
 | .lss=>K (.d (.bool (decide (x<y))))
 | .leq=>K (.d (.bool (decide (x≤y))))
 | .gtr=>K (.d (.bool (decide (x>y))))
 | .geq=>K (.d (.bool (decide (x≥y))))
def Bq (op:BinOp) (x y:Nat) (K:ai→Prop):Prop:=
 match op with
 | .add=>K (.d (.flt (adA x y)))
 | .sub=>K (.d (.flt (adB x y)))
 | .mul=>K (.d (.flt (adC x y)))
 | .quo=>K (.d (.flt (fdiv x y)))
 | .eql=>K (.d (.bool (Mx x y)))
 | .neq=>K (.d (.bool (!Mx x y)))
 | .lss=>K (.d (.bool (flt x y)))
 | .leq=>K (.d (.bool (afp x y)))
 | .gtr=>K (.d (.bool (afq x y)))
 | .geq=>K (.d (.bool (afr x y)))
 |_=>False
def dn:D→ai
 | .agg cs=> .agg (cs.map .d)
 |x=> .d x
mutual
def ai.has (i:Nat):ai→Bool
 | .agg cs=>ai.cY i cs
 | .box j _=>j==i
 | .own j _ _=>j==i
 | .ea j _ _=>j==i
 | .dr _ a b=>ai.cY i a||ai.cY i b
 |_=>false
def ai.cY (i:Nat):List ai→Bool
 |[]=>false
 |x::xs=>x.has i||ai.cY i xs
end
mutual
def ai.pure:ai→Bool
 | .d _=>true
 | .agg cs=>ai.hl cs
 | .dr _ a b=>ai.hl a && ai.hl b
 |_=>false
def ai.hl:List ai→Bool
 |[]=>true
 |x::xs=>x.pure && ai.hl xs
end
def ai.kill (i:Nat) (v:ai):ai:=match v with
 | .d x=> .d x
 |v=>if v.has i then .any else v
def BC.kill (i:Nat):BC→BC
 | .cells cs=> .cells (cs.map (ai.kill i))
 |c=>c
def cr.kill (i:Nat) (b:cr):cr:=⟨b.cE,b.ext,b.c.kill i⟩
mutual
def D.flat:D→Bool
 | .bool _| .int _ _| .flt _=>true
 | .agg cs=>D.xW cs
 | .fh cs=>D.xW cs
 |_=>false
def D.xW:List D→Bool
 |[]=>true
 |d::ds=>d.flat && D.xW ds
end
def afs (f:Nat→ai) (d:Nat) (v:ai):Nat→ai:=fun t=>if t=d then v else f t
def qX (f:Nat→Option cr) (i:Nat) (b:cr):Nat→Option cr:=fun t=>if t=i then some b else f t
namespace St
def a3 (σ:St):bB→ai
 | .t n=>σ.ag n
 | .c d=>dn d
def put (σ:St) (d:Option Nat) (v:ai):St:=match d with
 |some d=>⟨afs σ.ag d v,σ.az⟩
 |none=>σ
def eF (σ:St) (i:Nat) (b:cr):St:=⟨σ.ag,qX σ.az i b⟩
def fresh (σ:St) (i:Nat) (b:cr):St:=
 ⟨fun t=>(σ.ag t).kill i,qX (fun j=>(σ.az j).map (cr.kill i)) i b⟩
def forget (σ:St) (i:Nat):St:=⟨fun t=>(σ.ag t).kill i,fun j=>(σ.az j).map (cr.kill i)⟩
def w4 (σ:St) (i:Nat):St:=⟨σ.ag,fun j=>if j=i then (σ.az j).map (fun b=>⟨true,b.ext,b.c⟩)else σ.az j⟩
end St
def BC.part (lo n:Nat):BC→Option D
 | .cells _=>none
 | .ints k xs=>if lo+n≤xs.length then some (.ints k ((xs.drop lo).take n))else none
 | .flts xs=>if lo+n≤xs.length then some (.flts ((xs.drop lo).take n))else none
 | .recs sz xs=>if lo+n≤xs.length then some (.recs sz ((xs.drop lo).take n))else none
def ai.Hr:ai→Option D
 | .d x=>some x
 |_=>none
def sb:List ai→Option (List D)
 |[]=>some []
 |c::cs=>match c.Hr,sb cs with
  |some d,some ds=>some (d::ds)
  |_,_=>none
mutual
def toD (σ:St):ai→Option D
 | .d x=>some x
 | .agg cs=>match toDs σ cs with
   |some ds=>some (.agg ds)
   |none=>none
 | .own i lo n=>match σ.az i with
   |some b=>b.c.part lo n
   |none=>none
 | .box i 0=>match σ.az i with
   |some ⟨_,_,.cells cs⟩=>match sb cs with
    |some ds=>some (.ptr ds)
    |none=>none
   |_=>none
 | .dr f a b=>match toDs σ a,toDs σ b with
   |some x,some y=>some (.fn f x y)
   |_,_=>none
 |_=>none
def toDs (σ:St):List ai→Option (List D)
 |[]=>some []
 |c::cs=>match toD σ c,toDs σ cs with
  |some d,some ds=>some (d::ds)
  |_,_=>none
end
mutual
def h7 (σ:St):ai→St
 | .agg cs=>ke σ cs
 | .box i _=>σ.w4 i
 | .own i _ _=>σ.w4 i
 | .ea i _ _=>σ.w4 i
 | .dr _ a b=>ke (ke σ a) b
 |_=>σ
def ke (σ:St):List ai→St
 |[]=>σ
 |c::cs=>ke (h7 σ c) cs
end
mutual
def kc (σ:St):ai→Bool
 | .agg cs=>pq σ cs
 | .box i _=>match σ.az i with|some b=> !b.ext|none=>false
 | .own i _ _=>match σ.az i with|some b=> !b.ext|none=>false
 | .ea i _ _=>match σ.az i with|some b=> !b.ext|none=>false
 | .dr _ a b=>pq σ a && pq σ b
 |_=>true
def pq (σ:St):List ai→Bool
 |[]=>true
 |c::cs=>kc σ c && pq σ cs
end
def kv (σ:St) (n:Nat) (g:Bool) (v:ai) (K:ai→Prop):Prop:=
 match v with
 | .d (.ptr cs)=>if g then n≤cs.length∧K (.agg ((cs.take n).map .d))else
   match cs with
   |d::_=>K (.d d)
   |[]=>False
 | .box i off=>match σ.az i with
   |some ⟨_,_,.cells cs⟩=>if g then off+n≤cs.length∧K (.agg ((cs.drop off).take n))else
    match cs[off]? with
    |some v=>K v
    |none=>False
   |_=>False
 | .ea i j off=>match σ.az i with
   |some ⟨_,_,.ints k xs⟩=>off=0∧g=false∧j<xs.length∧K (.d (.int k (xs.getD j 0)))
   |some ⟨_,_,.flts xs⟩=>off=0∧g=false∧j<xs.length∧K (.d (.flt (xs.getD j 0)))
   |some ⟨_,_,.recs _ xs⟩=>j<xs.length∧(if g then off+n≤(xs.getD j []).length∧K (.agg ((((xs.getD j []).drop off).take n).map .d))else
    match (xs.getD j [])[off]? with
    |some d=>K (.d d)
    |none=>False)
   |_=>False
 |_=>False
def ai.cells:ai→List ai
 | .agg cs=>cs
 |v=>[v]
def ai.dY:ai→Bool
 | .d (.agg _)| .d (.fh _)| .agg _| .dF _| .dt| .any=>false
 |_=>true
def wK (zero:List ai):List (Nat×Nat×ai)→Option (List ai)
 |[]=>some zero
 |(off,size,v)::r=>
  if v.cells.length=size∧off+size≤zero.length∧v.cells.all ai.dY=true then wK (zero.take off++v.cells++zero.drop (off+size)) r else none
def cG (σ:St) (xs:List bB):List ai:=xs.map σ.a3
def sc (k:IntKind):List D→Option (List Int)
 |[]=>some []
 | .int eH n::r=>if eH=k then (sc k r).map (n:: ·)else none
 |_=>none
def sd:List D→Option (List Nat)
 |[]=>some []
 | .flt n::r=>(sd r).map (n:: ·)
 |_=>none
def ka (sz:Nat):List D→Option (List (List D))
 |[]=>some []
 | .agg cs::r=>if cs.length=sz then (ka sz r).map (cs:: ·)else none
 |d::r=>if sz=1 then (ka sz r).map ([d]:: ·)else none
def asSlice (ek:eG) (ds:List D):Option D:=
 match ek with
 | .ints k=>(sc k ds).map (.ints k)
 | .flts=>(sd ds).map .flts
 | .recs sz=>(ka sz ds).map (.recs sz)
def Dp (v:ai) (K:ai→Prop):Prop:=
 match v with
 | .d (.ints _ xs)=>K (.d (.int .i64 xs.length))
 | .d (.flts xs)=>K (.d (.int .i64 xs.length))
 | .d (.recs _ xs)=>K (.d (.int .i64 xs.length))
 | .own _ _ n=>K (.d (.int .i64 n))
 |_=>False
def pr:Option cr→Option Nat
 |some ⟨_,_,.recs sz _⟩=>some sz
 |some ⟨_,_,.ints _ _⟩=>some 1
 |some ⟨_,_,.flts _⟩=>some 1
 |_=>none
def bound (amz:Int) (v:Option ai) (K:Int→Prop):Prop:=
 match v with
 |none=>K amz
 |some (.d (.int _ n))=>K n
 |_=>False
def wF (σ:St) (sz:Nat) (v:ai) (i:Int) (K:ai→Prop):Prop:=
 match v with
 | .d (.ints k xs)=>sz=1∧0≤i∧i<xs.length∧K (.d (.ptr [.int k (xs.getD i.toNat 0)]))
 | .d (.flts xs)=>sz=1∧0≤i∧i<xs.length∧K (.d (.ptr [.flt (xs.getD i.toNat 0)]))
 | .d (.recs z xs)=>sz=z∧0≤i∧i<xs.length∧K (.d (.ptr (xs.getD i.toNat [])))
 | .own b lo n=>pr (σ.az b)=some sz∧0≤i∧i<n∧K (.ea b (lo+i.toNat) 0)
 |_=>False
def ss (σ:St) (sz:Nat) (v:ai) (lo hi:Option ai) (K:ai→Prop):Prop:=
 match v with
 | .d (.ints k xs)=>bound 0 lo fun l=>bound xs.length hi fun h=>sz=1∧0≤l∧l≤h∧h≤xs.length∧K (.d (.ints k ((xs.take h.toNat).drop l.toNat)))
 | .d (.flts xs)=>bound 0 lo fun l=>bound xs.length hi fun h=>sz=1∧0≤l∧l≤h∧h≤xs.length∧K (.d (.flts ((xs.take h.toNat).drop l.toNat)))
 | .d (.recs z xs)=>bound 0 lo fun l=>bound xs.length hi fun h=>sz=z∧0≤l∧l≤h∧h≤xs.length∧K (.d (.recs z ((xs.take h.toNat).drop l.toNat)))
 | .own b o n=>bound 0 lo fun l=>bound n hi fun h=>pr (σ.az b)=some sz∧0≤l∧l≤h∧h≤n∧K (.own b (o+l.toNat) (h.toNat - l.toNat))
 |_=>False
mutual
def ai.ids:ai→List Nat
 | .agg cs=>ai.ic cs
 | .box i _=>[i]
 | .own i _ _=>[i]
 | .ea i _ _=>[i]
 | .dr _ a b=>ai.ic a++ai.ic b
 |_=>[]
def ai.ic:List ai→List Nat
 |[]=>[]
 |c::cs=>c.ids++ai.ic cs
end
mutual
def ai.dG (g:Nat→Nat):ai→ai
 | .agg cs=> .agg (ai.ga g cs)
 | .box i o=> .box (g i) o
 | .own i lo n=> .own (g i) lo n
 | .ea i j o=> .ea (g i) j o
 | .dr f a b=> .dr f (ai.ga g a) (ai.ga g b)
 |v=>v
def ai.ga (g:Nat→Nat):List ai→List ai
 |[]=>[]
 |c::cs=>c.dG g::ai.ga g cs
end
def b0:Nat:=1000000
def placeOf:List Nat→Nat→Nat
 |[],_=>0
 |j::r,i=>if j=i then 0 else placeOf r i+1
def distinct:List Nat→List Nat
 |[]=>[]
 |i::r=>i::(distinct r).filter (· !=i)
def BC.pure:BC→Bool
 | .cells cs=>ai.hl cs
 |_=>true
mutual
def ai.tidy (p:Nat→Bool):ai→Bool
 | .d _=>true
 | .agg cs=>ai.ht p cs
 | .box i _=>p i
 | .dr _ a b=>ai.ht p a && ai.ht p b
 |_=>false
def ai.ht (p:Nat→Bool):List ai→Bool
 |[]=>true
 |c::cs=>c.tidy p && ai.ht p cs
end
def BC.tidy (p:Nat→Bool):BC→Bool
 | .cells cs=>ai.ht p cs
 |_=>true
def BC.dG (g:Nat→Nat):BC→BC
 | .cells cs=> .cells (ai.ga g cs)
 |c=>c
def reach (σ:St) (is:List Nat):List Nat:=
 distinct (is++is.flatMap fun i=>match σ.az i with
  |some ⟨_,_,.cells cs⟩=>ai.ic cs
  |_=>[])
def contents (σ:St) (p:Nat→Bool):List Nat→Option (List BC)
 |[]=>some []
 |i::r=>match σ.az i,contents σ p r with
  |some ⟨false,_,c⟩,some cs=>if c.tidy p=true then some (c::cs)else none
  |_,_=>none
def wP (C:hg) (σ:St) (K:ai→Prop) (vs:List ai):Prop:=
 match contents σ (fun _=>false) (distinct (ai.ic vs))with
 |some cs=>C.pre (ai.ga (fun i=>b0+placeOf (distinct (ai.ic vs)) i) vs) cs∧C.out (ai.ga (fun i=>b0+placeOf (distinct (ai.ic vs)) i) vs) cs=cs∧K (dn (C.res (ai.ga (fun i=>b0+placeOf (distinct (ai.ic vs)) i) vs) cs))
 |none=>False
def bz (Γ:Env) (σ:St) (K:ai→Prop):bJ→Prop
 | .bj x=>K (σ.a3 x)
 | .pick c a b=>match σ.a3 c with
   | .d (.bool t)=>(t=true→K (σ.a3 a))∧(t=false→K (σ.a3 b))
   |_=>False
 | .load n g x=>kv σ n g (σ.a3 x) K
 | .xV x=>match σ.a3 x with
   | .box i o=>K (.box i o)
   | .ea i j o=>K (.ea i j o)
   | .d (.ptr cs)=>K (.d (.ptr cs))
   | .d (.fn f a b)=>K (.d (.fn f a b))
   | .dr f a b=>K (.dr f a b)
   |_=>False
 | .bin op x y=>match σ.a3 x,σ.a3 y with
   | .d (.int k a),.d (.int eH b)=>(k=eH∨op= .shl∨op= .shr)∧Bp op k a b K
   | .d (.flt a),.d (.flt b)=>Bq op a b K
   |_,_=>False
 | .qW ne x y=>match σ.a3 x,σ.a3 y with
   | .d (.bool a),.d (.bool b)=>K (.d (.bool (if ne then a !=b else a==b)))
   |_,_=>False
 | .w1 ne x y=>match (σ.a3 x).pair,(σ.a3 y).pair with
   |some p,some q=>K (.d (.bool (if ne then !(p.1==q.1 && p.2==q.2)else (p.1==q.1 && p.2==q.2))))
   |_,_=>False
 | .un op x=>match op,σ.a3 x with
   | .not,.d (.bool b)=>K (.d (.bool (!b)))
   | .neg,.d (.int k n)=>arith k (0 - n) K
   | .neg,.d (.flt b)=>K (.d (.flt (LI b)))
   |_,_=>False
 | .conv k x=>match σ.a3 x with
   | .d (.int _ n)=>arith k n K
   |_=>False
 | .wJ x=>match σ.a3 x with
   | .d (.int _ n)=>K (.d (.flt (aa5 n)))
   | .d (.flt b)=>K (.d (.flt b))
   |_=>False
 | .dD off x=>match σ.a3 x with
   | .box i o=>K (.box i (o+off))
   | .ea i j o=>K (.ea i j (o+off))
   | .d (.ptr cs)=>K (.d (.ptr (cs.drop off)))
   |_=>False
 | .zI off n g x=>match σ.a3 x with
   | .agg cs=>if g then off+n≤cs.length∧K (.agg ((cs.drop off).take n))else
     match cs[off]? with
     |some v=>K v
     |none=>False
   |_=>False
 | .u4 sz x i=>match σ.a3 i with
   | .d (.int _ n)=>wF σ sz (σ.a3 x) n K
   |_=>False
 | .y8 len sz x i=>match σ.a3 x,σ.a3 i with
   | .box b o,.d (.int _ n)=>0≤n∧n<len∧K (.box b (o+n.toNat*sz))
   | .d (.ptr cs),.d (.int _ n)=>0≤n∧n<len∧K (.d (.ptr (cs.drop (n.toNat*sz))))
   |_,_=>False
 | .idx len n g x i=>match σ.a3 x,σ.a3 i with
   | .agg cs,.d (.int _ j)=>0≤j∧j<len∧(if g then j.toNat*n+n≤cs.length∧K (.agg ((cs.drop (j.toNat*n)).take n))else
     match cs[j.toNat*n]? with
     |some v=>K v
     |none=>False)
   |_,_=>False
 | .sr i x=>match σ.a3 x with
   | .d (.fh ds)=>match ds[i]? with
     |some d=>K (dn d)
     |none=>False
   |_=>False
 | .len x=>Dp (σ.a3 x) K
 | .pS x y=>match σ.a3 x,σ.a3 y with
   | .d (.int k a),.d (.int _ b)=>K (.d (.int k (if b>a then b else a)))
   |_,_=>False
 | .Ak x y=>match σ.a3 x,σ.a3 y with
   | .d (.int k a),.d (.int _ b)=>K (.d (.int k (if b<a then b else a)))
   |_,_=>False
 | .zJ sz x lo hi=>ss σ sz (σ.a3 x) (lo.map σ.a3) (hi.map σ.a3) K
 | .build zero parts=>match wK (zero.map .d) (parts.map fun p=>(p.1,p.2.1,σ.a3 p.2.2))with
   |some cs=>K (.agg cs)
   |none=>False
 | .hU ek parts=>ai.hl (cG σ parts)=true∧match toDs σ (cG σ parts)with
   |some ds=>match asSlice ek ds with
    |some d=>K (.d d)
    |none=>False
   |none=>False
 | .zh f fst cap=>if (ai.hl (cG σ fst) && ai.hl (cG σ cap))=true then
  match toDs σ (cG σ fst),toDs σ (cG σ cap)with
  |some a,some b=>K (.d (.fn f a b))
  |_,_=>False
   else K (.dr f (cG σ fst) (cG σ cap))
 | .call f args=>match toDs σ (cG σ args),Γ.fn f with
   |some ds,some C=>C.pre ds∧((C.res ds).flat=true∨ai.hl (cG σ args)=true)∧K (dn (C.res ds))
   |_,_=>False
 | .hS x args=>match σ.a3 x with
   | .d (.fn f fst cap)=>match toDs σ (cG σ args),Γ.fn f with
     |some ds,some C=>C.pre (fst++ds++cap)∧((C.res (fst++ds++cap)).flat=true∨ai.hl (cG σ args)=true)∧K (dn (C.res (fst++ds++cap)))
     |_,_=>False
   | .dr f fst cap=>match Γ.mt f with
     |some C=>wP C σ K (fst++cG σ args++cap)
     |none=>False
   |_=>False
 |_=>False
def uT (ek:eG) (zero:List D) (n:Nat):Option BC:=
 match ek,zero with
 | .ints k,[.int eH 0]=>if eH=k then some (.ints k (List.replicate n 0))else none
 | .flts,[.flt 0]=>some (.flts (List.replicate n 0))
 | .recs sz,z=>if z.length=sz then some (.recs sz (List.replicate n z))else none
 |_,_=>none
def r4:eG→BC
 | .ints k=> .ints k []
 | .flts=> .flts []
 | .recs sz=> .recs sz []
def se (c:BC) (off:Nat) (vs:List ai):Option BC:=
 match c with
 | .cells cs=>if off+vs.length≤cs.length then some (.cells (cs.take off++vs++cs.drop (off+vs.length)))else none
 |_=>none
def uU (c:BC) (j off:Nat) (vs:List ai):Option BC:=
 match c,vs with
 | .ints k xs,[.d (.int eH n)]=>if eH=k∧off=0∧j<xs.length then some (.ints k (xs.set j n))else none
 | .flts xs,[.d (.flt n)]=>if off=0∧j<xs.length then some (.flts (xs.set j n))else none
 | .recs sz xs,vs=>match sb vs with
   |some ds=>if j<xs.length∧off+ds.length≤sz then some (.recs sz (xs.set j ((xs.getD j []).take off++ds++(xs.getD j []).drop (off+ds.length))))else none
   |none=>none
 |_,_=>none
def AL (aB:List (List D)):Bool:=aB.all fun r=>r.all fun d=>(ai.d d).dY
def Br (c:BC) (d:D):Option BC:=
 match c,d with
 | .ints k xs,.ints eH aB=>if eH=k then some (.ints k (xs++aB))else none
 | .flts xs,.flts aB=>some (.flts (xs++aB))
 | .recs sz xs,.recs BO aB=>if BO=sz∧AL aB=true then some (.recs sz (xs++aB))else none
 |_,_=>none
def over {α:Type} (lo n:Nat) (xs aB:List α):List α:=xs.take lo++aB.take n++xs.drop (lo+(aB.take n).length)
def Ba (c:BC) (lo n:Nat) (d:D):Option (BC×Nat):=
 match c,d with
 | .ints k xs,.ints eH aB=>if eH=k∧lo+n≤xs.length then some (.ints k (over lo n xs aB),min aB.length n)else none
 | .flts xs,.flts aB=>if lo+n≤xs.length then some (.flts (over lo n xs aB),min aB.length n)else none
 | .recs sz xs,.recs BO aB=>if BO=sz∧lo+n≤xs.length∧AL aB=true then some (.recs sz (over lo n xs aB),min aB.length n)else none
 |_,_=>none
def BC.count:BC→Nat
 | .cells cs=>cs.length
 | .ints _ xs=>xs.length
 | .flts xs=>xs.length
 | .recs _ xs=>xs.length
def b4:Nat:=4294967296
def hQ (σ:St):List Nat→List BC→St
 |i::r,c::cs=>match σ.az i with
  |some b=>hQ (σ.eF i ⟨b.cE,b.ext,c⟩) r cs
  |none=>hQ σ r cs
 |_,_=>σ
def xX (n i:Nat):Bool:=decide (b0≤i) && decide (i<b0+n)
def wG (C:hg) (dst:Option Nat) (σ:St) (K:St→Prop) (vs:List ai) (is:List Nat):Prop:=
 match contents σ (fun i=>is.contains i) is with
 |some My=>let bg:=ai.ga (fun i=>b0+placeOf is i) vs
  let cs:=My.map (BC.dG fun i=>b0+placeOf is i)
  C.pre bg cs∧(C.out bg cs).length=is.length∧(C.out bg cs).all (BC.tidy (xX is.length))=true∧
    K ((hQ σ is ((C.out bg cs).map (BC.dG fun i=>is.getD (i - b0) 0))).put dst (dn (C.res bg cs)))
 |none=>False
def si (C:hg) (dst:Option Nat) (σ:St) (K:St→Prop) (vs:List ai):Prop:=wG C dst σ K vs (reach σ (reach σ (distinct (ai.ic vs))))
def D.emp:D→Bool
 | .ints _ []| .flts []| .recs _ []=>true
 |_=>false
def D.Hs:D→Bool
 | .ints _ _| .flts _=>true
 |_=>false
def jF:D→Option (BC×Nat)
 | .ints k xs=>some (.ints k xs,xs.length)
 | .flts xs=>some (.flts xs,xs.length)
 |_=>none
def u5 (C:bC) (dst:Option Nat) (σ:St) (K:St→Prop) (vs:List ai):Prop:=
 match toDs σ vs with
 |some ds=>C.pre ds∧(if C.own=true then match dst,jF (C.res ds)with
  |some i,some (c,n)=>K ((σ.fresh i ⟨false,false,c⟩).put (some i) (.own i 0 n))
  |_,_=>False
  else if ((C.res ds).flat||ai.hl vs)=true then K (σ.put dst (dn (C.res ds)))
  else pq σ vs=true∧K ((ke σ vs).put dst (dn (C.res ds))))
 |none=>False
def sj (Γ:Env) (dst:Option Nat) (σ:St) (K:St→Prop) (f:Nat) (vs:List ai):Prop:=
 match Γ.mt f,Γ.fn f with
 |some C,_=>si C dst σ K vs
 |none,some C=>u5 C dst σ K vs
 |none,none=>False
def db (Γ:Env) (dst:Option Nat) (σ:St) (K:St→Prop) (o:bJ):Prop:=
 match o with
 | .alloc zero=>match dst with
   |some i=>K ((σ.fresh i ⟨false,false,.cells (zero.map .d)⟩).put dst (.box i 0))
   |none=>False
 | .box x=>match dst with
   |some i=>(σ.a3 x).has i=false∧(σ.a3 x).cells.all ai.dY=true∧K ((σ.fresh i ⟨false,false,.cells (σ.a3 x).cells⟩).put dst (.box i 0))
   |none=>False
 | .rq ek zero n=>match dst,σ.a3 n with
   |some i,.d (.int _ n)=>match uT ek zero n.toNat with
    |some c=>0≤n∧n≤b4∧K ((σ.fresh i ⟨false,false,c⟩).put dst (.own i 0 n.toNat))
    |none=>False
   |_,_=>False
 | .nil ek=>match dst with
   |some i=>K ((σ.fresh i ⟨false,false,r4 ek⟩).put dst (.own i 0 0))
   |none=>False
 | .store n a x=>match σ.a3 a with
   | .box i off=>match σ.az i with
     |some ⟨false,e,c⟩=>(σ.a3 x).cells.length=n∧(σ.a3 x).cells.all ai.dY=true∧match se c off (σ.a3 x).cells with
      |some c=>K ((σ.eF i ⟨false,e,c⟩).put dst .dt)
      |none=>False
     |_=>False
   | .ea i j off=>match σ.az i with
     |some ⟨false,e,c⟩=>(σ.a3 x).cells.length=n∧(σ.a3 x).cells.all ai.dY=true∧match uU c j off (σ.a3 x).cells with
      |some c=>K ((σ.eF i ⟨false,e,c⟩).put dst .dt)
      |none=>False
     |_=>False
   |_=>False
 | .app ek x y=>match σ.a3 x with
   | .own i lo n=>match σ.az i,toD σ (σ.a3 y)with
     |some ⟨false,false,c⟩,some d=>match Br c d with
      |some c'=>pr (σ.az i)=some ek.sz∧lo=0∧n=c.count∧c'.count≤b4∧K (((σ.forget i).eF i ⟨false,false,c'⟩).put dst (.own i 0 c'.count))
      |none=>False
     |_,_=>False
   |_=>False
 | .copy ek x y=>match σ.a3 x with
   | .own i lo n=>match σ.az i,toD σ (σ.a3 y)with
     |some ⟨false,e,c⟩,some d=>match Ba c lo n d with
      |some (c',m)=>pr (σ.az i)=some ek.sz∧K ((σ.eF i ⟨false,e,c'⟩).put dst (.d (.int .i64 m)))
      |none=>False
     |_,_=>False
   |_=>False
 | .call f args=>sj Γ dst σ K f (cG σ args)
 | .hS x args=>match σ.a3 x with
   | .d (.fn f fst cap)=>sj Γ dst σ K f (fst.map dn++cG σ args++cap.map dn)
   | .dr f fst cap=>sj Γ dst σ K f (fst++cG σ args++cap)
   |_=>False
 | .y9 x=>match toD σ (σ.a3 x)with
   |some d=>d.Hs=true∧∀b:Bool,(b=true→d.emp=true)→K (σ.put dst (.d (.bool b)))
   |none=>False
 |o=>bz Γ σ (fun v=>K (σ.put dst v)) o
def guarded (σ:St) (g:Option (Nat×Bool)) (yes no:Prop):Prop:=
 match g with
 |none=>yes
 |some (t,w)=>match σ.ag t with
  | .d (.bool b)=>(b=w→yes)∧(b=(!w)→no)
  | .dt=>no
  |_=>False
def bJ.ops:bJ→List bB
 | .y9 x| .bj x| .load _ _ x| .xV x| .un _ x| .conv _ x| .wJ x| .dD _ x| .zI _ _ _ x| .sr _ x| .len x| .box x| .rq _ _ x=>[x]
 | .pick c a b=>[c,a,b]
 | .bin _ x y| .qW _ x y| .w1 _ x y| .u4 _ x y| .y8 _ _ x y| .idx _ _ _ x y| .pS x y| .Ak x y| .store _ x y| .app _ x y| .copy _ x y=>[x,y]
 | .zJ _ x lo hi=>x::(lo.toList++hi.toList)
 | .build _ ps=>ps.map (·.2.2)
 | .hU _ ps=>ps
 | .zh _ a b=>a++b
 | .call _ as=>as
 | .hS x as=>x::as
 | .alloc _| .nil _| .bad=>[]
def bJ.makes:bJ→Bool
 | .alloc _| .box _| .rq _ _ _| .nil _=>true
 |_=>false
def k8 (σ:St):List (bW×List Nat)→St
 |[]=>σ
 |o::r=>k8 (match o.1.op.makes,o.1.dst with
  |true,some i=>⟨fun t=>(σ.ag t).kill i,fun j=>if j=i then none else (σ.az j).map (cr.kill i)⟩
  |_,_=>σ) r
def AW (ck:List Nat) (vs:List ai):Bool:=ck.all fun i=> !ai.cY i vs
def made (σ:St) (o:bJ) (K:ai→cr→Prop) (i:Nat):Prop:=
 match o with
 | .alloc zero=>K (.box i 0) ⟨false,false,.cells (zero.map .d)⟩
 | .box x=>(σ.a3 x).cells.all ai.dY=true∧K (.box i 0) ⟨false,false,.cells (σ.a3 x).cells⟩
 | .rq ek zero n=>match σ.a3 n with
   | .d (.int _ n)=>match uT ek zero n.toNat with
     |some c=>0≤n∧n≤b4∧K (.own i 0 n.toNat) ⟨false,false,c⟩
     |none=>False
   |_=>False
 | .nil ek=>K (.own i 0 0) ⟨false,false,r4 ek⟩
 |_=>False
def stored (σ:St) (n:Nat) (a x:bB) (K:Nat→cr→Prop):Prop:=
 match a,σ.a3 a with
 | .t p,.box i off=>i=p∧match σ.az i with
   |some ⟨false,e,c⟩=>(σ.a3 x).cells.length=n∧(σ.a3 x).cells.all ai.dY=true∧match se c off (σ.a3 x).cells with
    |some c=>K i ⟨false,e,c⟩
    |none=>False
   |_=>False
 |_,_=>False
def wB (σ:St) (n:Nat) (a x:bB) (K:Nat→cr→Prop):Prop:=
 match σ.a3 a with
 | .box i off=>match σ.az i with
   |some ⟨false,e,c⟩=>(σ.a3 x).cells.length=n∧(σ.a3 x).cells.all ai.dY=true∧match se c off (σ.a3 x).cells with
    |some c=>K i ⟨false,e,c⟩
    |none=>False
   |_=>False
 | .ea i j off=>match σ.az i with
   |some ⟨false,e,c⟩=>(σ.a3 x).cells.length=n∧(σ.a3 x).cells.all ai.dY=true∧match uU c j off (σ.a3 x).cells with
    |some c=>K i ⟨false,e,c⟩
    |none=>False
   |_=>False
 |_=>False
def uO (ck:List Nat) (σ:St) (n:Nat) (a x:bB) (K:Nat→cr→Prop):Prop:=
 match ck with
 |[]=>wB σ n a x K
 |_::_=>stored σ n a x K
def Dc (d:Option Nat) (K:Nat→Prop):Prop:=match d with
 |some i=>K i
 |none=>False
def su (Γ:Env) (dst:Option Nat) (op:bJ) (σ:St) (K:St→Prop):Prop:=
 if op.makes=true then Dc dst fun i=>σ.az i=none∧made σ op (fun v b=>K ((σ.eF i b).put (some i) v)) i else bz Γ σ (fun v=>K (σ.put dst v)) op
def za (Γ:Env) (dst:Option Nat) (ck:List Nat) (σ:St) (K:St→Prop) (f:Nat) (as:List bB):Prop:=
 match ck,Γ.mt f with
 |[],some C=>si C dst σ K (cG σ as)
 |_,_=>su Γ dst (.call f as) σ K
def tU (Γ:Env) (o:bW) (ck:List Nat) (σ:St) (K:St→Prop):Prop:=
 AW ck (cG σ o.op.ops)=true∧
 match o.op with
 | .store n a x=>o.dst=none∧uO ck σ n a x fun i b=>K (σ.eF i b)
 | .call f as=>za Γ o.dst ck σ K f as
 |op=>su Γ o.dst op σ K
def c2 (Γ:Env) (K:St→Prop):List (bW×List Nat)→St→Prop
 |[],σ=>K σ
 |o::r,σ=>guarded σ o.1.guard (tU Γ o.1 o.2 σ (c2 Γ K r)) (c2 Γ K r (σ.put o.1.dst .dt))
def eQ (Γ:Env) (K:St→Prop):List bW→St→Prop
 |[],σ=>K σ
 |o::r,σ=>guarded σ o.guard (db Γ o.dst σ (eQ Γ K r) o.op) (eQ Γ K r (σ.put o.dst .dt))
inductive e6 where
 |normal
 |exit (id:Nat)
 |ret
def A5 (body:(e6→St→Prop)→St→Prop) (Q:e6→St→Prop) (σ:St):Prop:=
 ∃(I:St→Prop) (eI:St→Nat),I σ∧∀s,I s→body (fun e dM=>match e with| .normal=>I dM∧eI dM<eI s|e=>Q e dM) s
def cp (Γ:Env):ay→(e6→St→Prop)→St→Prop
 | .skip,Q,σ=>Q .normal σ
 | .cR ops,Q,σ=>eQ Γ (Q .normal) ops σ
 | .kd pre w2,Q,σ=>c2 Γ (eQ Γ (Q .normal) w2) pre (k8 σ pre)
 | .seq a b,Q,σ=>cp Γ a (fun e s=>match e with| .normal=>cp Γ b Q s|e=>Q e s) σ
 | .cond c a b,Q,σ=>match σ.a3 c with
   | .d (.bool t)=>(t=true→cp Γ a Q σ)∧(t=false→cp Γ b Q σ)
   |_=>False
 | .block id a,Q,σ=>cp Γ a (fun e s=>match e with| .exit j=>if j=id then Q .normal s else Q (.exit j) s|e=>Q e s) σ
 | .loop a,Q,σ=>A5 (cp Γ a) Q σ
 | .exit id,Q,σ=>Q (.exit id) σ
 | .ret,Q,σ=>Q .ret σ
def Dq (σ:St):bx→Option ai
 | .tmp t=>some (σ.ag t)
 | .cell t n g=>match σ.ag t with
   | .box i off=>match σ.az i with
     |some ⟨_,_,.cells cs⟩=>if g then (if off+n≤cs.length then some (.agg ((cs.drop off).take n))else none)else cs[off]?
     |_=>none
   |_=>none
def tA (σ:St):List bx→Option (List ai)
 |[]=>some []
 |r::rs=>match Dq σ r,tA σ rs with
  |some v,some vs=>some (v::vs)
  |_,_=>none
def zi:List D→D
 |[d]=>d
 |ds=> .fh ds
def kA (rs:List bx) (σ:St) (K:D→Prop):Prop:=
 match tA σ rs with
 |some vs=>pq σ vs=true∧match toDs σ vs with
  |some ds=>K (zi ds)
  |none=>False
 |none=>False
def tV (args:List D):St:=⟨fun t=>match args[t]? with|some d=>dn d|none=> .dt,fun _=>none⟩
def bT (Γ:Env) (l:ay) (rs:List bx) (args:List D) (K:D→Prop):Prop:=
 cp Γ l (fun e σ=>match e with| .exit _=>False|_=>kA rs σ K) (tV args)
def HB (rs:List bx) (σ:St) (K:D→Prop):Prop:=
 match rs with
 |[.tmp t]=>match σ.ag t with
  | .own i lo n=>match σ.az i with
    |some ⟨false,false,.ints k xs⟩=>lo=0∧xs.length=n∧K (.ints k xs)
    |some ⟨false,false,.flts xs⟩=>lo=0∧xs.length=n∧K (.flts xs)
    |_=>False
  |_=>False
 |_=>False
def HC (Γ:Env) (l:ay) (rs:List bx) (args:List D) (K:D→Prop):Prop:=
 cp Γ l (fun e σ=>match e with| .exit _=>False|_=>HB rs σ K) (tV args)
def wQ (as:List ai) (cs:List BC):St:=
 ⟨fun t=>match as[t]? with|some v=>v|none=> .dt,fun i=>if b0≤i then (cs[i - b0]?).map (fun c=>⟨false,true,c⟩)else none⟩
def uV (σ:St) (m k:Nat):Nat→Option (List BC)
 |0=>some []
 |n+1=>match σ.az (b0+k),uV σ m (k+1) n with
  |some ⟨_,true,c⟩,some r=>if c.tidy (xX m)=true then some (c::r)else none
  |_,_=>none
def vk (Γ:Env) (l:ay) (rs:List bx) (as:List ai) (cs:List BC) (K:D→List BC→Prop):Prop:=
 cp Γ l (fun e σ=>match e with
  | .exit _=>False
  |_=>kA rs σ fun d=>match uV σ cs.length 0 cs.length with
   |some cs'=>K d cs'
   |none=>False) (wQ as cs)
def sv (P:Program) (t:TypeId):Option (Nat×Bool):=
 match P.underlying t,P.info? t with
 |some (.struct _),some i=>some (i.size,true)
 |some (.array _ _),some i=>some (i.size,true)
 |some _,some i=>if i.size=1 then some (1,false)else none
 |_,_=>none
def hT (P:Program) (t:TypeId):Option Nat:=(P.info? t).map (·.size)
def ts (P:Program) (e:TypeId):Option eG:=
 match P.underlying e,hT P e with
 |some (.int k),some 1=>some (.ints k)
 |some (.float .f64),some 1=>some .flts
 |some (.int _),_=>none
 |some (.float _),_=>none
 |some _,some (n+1)=>some (.recs (n+1))
 |_,_=>none
def sL (P:Program) (t:TypeId):Option eG:=
 match P.underlying t with
 |some (.slice e)=>ts P e
 |_=>none
def eG.empty:eG→D
 | .ints k=> .ints k []
 | .flts=> .flts []
 | .recs sz=> .recs sz []
def G8 (P:Program) (t:TypeId):Value→Option D
 | .bool b=>some (.bool b)
 | .int k n=>some (.int k n)
 | .float .f64 b=>if (Ieee.double.read b).isNaN then none else some (.flt b)
 | .slice none 0 0=>(sL P t).map eG.empty
 | .nilFunc=>some .nilfn
 | .pointer none=>some .nilp
 |_=>none
def Ll (P:Program):Nat→TypeId→Option (List TypeId)
 |0,_=>none
 |n+1,t=>match P.underlying t with
  |some (.struct fs)=>fs.toList.foldr (fun f r=>match Ll P n f.type,r with|some a,some b=>some (a++b)|_,_=>none) (some [])
  |some (.array len e)=>match Ll P n e with
   |some a=>some ((List.replicate len a).flatten)
   |none=>none
  |some _=>some [t]
  |none=>none
def xO (P:Program):List TypeId→List Value→Option (List D)
 |[],[]=>some []
 |t::dv,v::vs=>match G8 P t v,xO P dv vs with
  |some d,some ds=>some (d::ds)
  |_,_=>none
 |_,_=>none
def A6 (P:Program) (t:TypeId):Option (List D):=
 match (P.info? t).bind (·.zero),Ll P 10 t with
 |some z,some dv=>xO P dv z.cells.toList
 |_,_=>none
def qP (P:Program) (t:TypeId):Operand→Option bB
 | .tmp n=>some (.t n)
 | .func f=>some (.c (.fn f [] []))
 | .const (.agg cs)=>match Ll P 10 t with
   |some dv=>(xO P dv cs.toList).map (fun ds=> .c (.agg ds))
   |none=>none
 | .const v=>(G8 P t v).map .c
 | .global _=>none
def qM (P:Program):List TypeId→List Operand→Option (List bB)
 |_,[]=>some []
 |t::dv,x::xs=>match qP P t x,qM P dv xs with
  |some v,some vs=>some (v::vs)
  |_,_=>none
 |[],_=>none
def eh (P:Program) (x:Operand):Option bB:=
 match x with
 | .const (.slice ..)| .const (.agg _)=>none
 |x=>qP P 0 x
def yP (P:Program) (pl:List (Nat×Nat×TypeId)):List (Nat×Operand)→Option (List (Nat×Nat×bB))
 |[]=>some []
 |(i,x)::r=>match pl[i]?,yP P pl r with
  |some (off,size,t),some ps=>match qP P t x with
   |some v=>some ((off,size,v)::ps)
   |none=>none
  |_,_=>none
def GW (P:Program) (fs:List Field):Option (List (Nat×Nat×TypeId)):=
 match fs with
 |[]=>some []
 |f::r=>match hT P f.type,GW P r with
  |some n,some ps=>some ((f.offset,n,f.type)::ps)
  |_,_=>none
def K0:Operand→Operand→Bool
 | .tmp a,.tmp b=>a==b
 | .const (.int j a),.const (.int k b)=>j==k && a==b
 |_,_=>false
def CW (n:Nat):List (Nat×Operand)→Nat→Bool
 |[],i=>i==n
 |(j,_)::r,i=>j==i && CW n r (i+1)
def GI (P:Program) (t:TypeId):Bool:=match P.underlying t with|some (.slice _)=>true|_=>false
def uP (P:Program) (ty:TypeId) (x:Operand):Option bJ:=
 match x with
 | .const (.slice none 0 0)=>(sL P ty).map .nil
 |x=>(qP P ty x).map .bj
def u6 (P:Program) (ty:TypeId) (c a b:Operand):Option bJ:=
 match eh P c,qP P ty a,qP P ty b with
 |some c,some a,some b=>some (.pick c a b)
 |_,_,_=>none
def u7 (P:Program) (t:TypeId) (x:Operand):Option bJ:=
 match eh P x,sv P t with
 |some x,some (n,g)=>some (.load n g x)
 |_,_=>none
def wH (P:Program) (t:TypeId) (a x:Operand):Option bJ:=
 match eh P a,qP P t x,hT P t with
 |some a,some x,some n=>some (.store n a x)
 |_,_,_=>none
def zj (P:Program) (t:TypeId):Bool:=match P.underlying t with
 |some (.int .i64)=>true
 |_=>false
def Dd (P:Program) (t:TypeId):Bool:=match P.underlying t with
 |some (.struct fs)=>match fs.toList with
  |[f,g]=>f.name != "_" && g.name != "_" && f.offset==0 && g.offset==1 && zj P f.type && zj P g.type && !P.stoodInHeld t && !P.eqGuardType P.depth t
  |_=>false
 |_=>false
def vl (P:Program) (op:BinOp) (t:TypeId) (x y:Operand):Option bJ:=
 match eh P x,eh P y with
 |some x,some y=>match P.underlying t,op with
  |some .bool,.eql=>some (.qW false x y)
  |some .bool,.neq=>some (.qW true x y)
  |some (.int _),op=>some (.bin op x y)
  |some (.float .f64),op=>some (.bin op x y)
  |_,.eql=>if Dd P t=true then some (.w1 false x y)else none
  |_,.neq=>if Dd P t=true then some (.w1 true x y)else none
  |_,_=>none
 |some x,none=>match op,y,P.underlying t with
  | .eql,.const (.slice none 0 0),some (.slice _)=>some (.y9 x)
  |_,_,_=>none
 |_,_=>none
def u9 (P:Program) (s t:TypeId) (x:Operand):Option bJ:=
 match eh P x,P.underlying s,P.underlying t with
 |some x,some (.int _),some (.int k)=>some (.conv k x)
 |some x,some (.int _),some (.float .f64)=>some (.wJ x)
 |some x,some (.float .f64),some (.float .f64)=>some (.wJ x)
 |_,_,_=>none
def uW (P:Program) (s:TypeId) (x:Operand) (f:Nat):Option bJ:=
 match P.underlying s,eh P x with
 |some (.struct fs),some x=>match fs[f]? with
  |some f=>match hT P f.type with
   |some (_+1)=>some (.dD f.offset x)
   |_=>none
  |none=>none
 |_,_=>none
def uX (P:Program) (s:TypeId) (x:Operand) (f:Nat):Option bJ:=
 match P.underlying s,eh P x with
 |some (.struct fs),some x=>match fs[f]? with
  |some f=>match sv P f.type with
   |some (n,g)=>some (.zI f.offset n g x)
   |_=>none
  |none=>none
 |_,_=>none
def uY (P:Program) (t:TypeId) (x i:Operand):Option bJ:=
 match P.underlying t,eh P x,eh P i with
 |some (.slice e),some x,some i=>(hT P e).map fun n=> .u4 n x i
 |some (.array len e),some x,some i=>(hT P e).map fun n=> .y8 len n x i
 |_,_,_=>none
def uZ (P:Program) (t:TypeId) (x i:Operand):Option bJ:=
 match P.underlying t,eh P x,eh P i with
 |some (.array len e),some x,some i=>match sv P e with
  |some (n,g)=>some (.idx len n g x i)
  |none=>none
 |_,_,_=>none
def va (P:Program) (f:Nat) (fst cap:Array Operand):Option bJ:=
 match qM P (fst.toList.map fun _=>0) fst.toList,qM P (cap.toList.map fun _=>0) cap.toList with
 |some a,some b=>some (.zh f a b)
 |_,_=>none
def AX (P:Program) (e:TypeId):Bool:=match P.info? e with
 |some i=>decide (i.bytes≤4096)
 |none=>false
def wL (P:Program) (t:TypeId) (l c:Operand):Option bJ:=
 match P.underlying t,eh P l with
 |some (.slice e),some n=>match ts P e,A6 P e with
  |some ek,some z=>if K0 l c && AX P e then some (.rq ek z n)else none
  |_,_=>none
 |_,_=>none
def PH (P:Program):Option Operand→Option (Option bB)
 |none=>some none
 |some x=>(eh P x).map some
def u0 (P:Program) (t:TypeId) (x:Operand) (lo hi pS:Option Operand):Option bJ:=
 match P.underlying t,eh P x,pS with
 |some (.slice e),some x,none=>match hT P e,PH P lo,PH P hi with
  |some n,some lo,some hi=>some (.zJ n x lo hi)
  |_,_,_=>none
 |_,_,_=>none
def u1 (P:Program) (t:TypeId) (parts:Array (Nat×Operand)):Option bJ:=
 match P.underlying t,A6 P t with
 |some (.struct fs),some z=>match GW P fs.toList with
  |some pl=>(yP P pl parts.toList).map (.build z)
  |none=>none
 |some (.array len e),some z=>match hT P e with
  |some n=>(yP P ((List.range len).map fun i=>(i*n,n,e)) parts.toList).map (.build z)
  |none=>none
 |_,_=>none
def vm (P:Program) (t:TypeId) (len:Nat) (parts:Array (Nat×Operand)):Option bJ:=
 match P.underlying t with
 |some (.slice e)=>match ts P e with
  |some ek=>if ((P.info? e).bind (·.zero)).isSome then
   if len=0 then (if parts.toList.isEmpty then some (.nil ek)else none)
   else if CW len parts.toList 0 && decide (len*ek.sz≤16777216)then (qM P (parts.toList.map fun _=>e) (parts.toList.map (·.2))).map (.hU ek)else none
   else none
  |none=>none
 |_=>none
def Ht (P:Program) (t:TypeId):Bool:=match P.underlying t with
 |some (.slice e)=>AX P e && (match P.info? e with|some i=>(match i.zero with|some z=>z.cells.size==i.size|none=>false)|none=>false)
 |_=>false
def uL (P:Program) (b:Builtin) (args:List Operand) (dv:List TypeId):Option bJ:=
 match b,args,dv with
 | .len,[x],[t]=>if GI P t then (eh P x).map .len else none
 | .max,[x,y],_=>match eh P x,eh P y with
   |some x,some y=>some (.pS x y)
   |_,_=>none
 | .min,[x,y],_=>match eh P x,eh P y with
   |some x,some y=>some (.Ak x y)
   |_,_=>none
 | .append,[x,y],[t,u]=>match sL P t,eh P x,eh P y with
   |some ek,some x,some y=>if GI P u && Ht P t then some (.app ek x y)else none
   |_,_,_=>none
 | .copy,[x,y],[t,u]=>match sL P t,eh P x,eh P y with
   |some ek,some x,some y=>if GI P u then some (.copy ek x y)else none
   |_,_,_=>none
 |_,_,_=>none
def vb (P:Program) (c:Call):Option bJ:=
 match c.callee with
 | .builtin b=>uL P b c.args.toList c.argTypes.toList
 | .value (.func f)=>(qM P c.argTypes.toList c.args.toList).map (.call f)
 | .value x=>match eh P x,qM P c.argTypes.toList c.args.toList with
   |some x,some as=>some (.hS x as)
   |_,_=>none
 | .invoke _ _=>none
def dV (P:Program) (ty:TypeId):Op→Option bJ
 | .assign x=>uP P ty x
 | .move x=>(qP P ty x).map .bj
 | .pick c a b=>u6 P ty c a b
 | .alloc e=>(A6 P e).map .alloc
 | .box e x=>(qP P e x).map .box
 | .load t x=>u7 P t x
 | .store t a x=>wH P t a x
 | .nilCheck x=>(eh P x).map .xV
 | .binOp op t x y _=>vl P op t x y
 | .unOp op _ x=>(eh P x).map (.un op)
 | .convert s t x=>u9 P s t x
 | .fieldAddr s x f=>uW P s x f
 | .field s x f=>uX P s x f
 | .indexAddr t x i=>uY P t x i
 | .index t x i=>uZ P t x i
 | .extract x i=>(eh P x).map (.sr i)
 | .makeFunc (.func f) fst cap=>va P f fst cap
 | .makeSlice t l c=>wL P t l c
 | .slice t x lo hi pS=>u0 P t x lo hi pS
 | .build t parts=>u1 P t parts
 | .buildSlice t len parts=>vm P t len parts
 | .call c=>vb P c
 | .panic _| .makeInterface _ _=>some .bad
 |_=>none
def h8 (N:Nat) (d:Option Nat):Bool:=match d with|some d=>decide (d<N)|none=>true
def G9 (ops:Array Oper) (g:Option (Nat×Bool)):Option (Option (Nat×Bool)):=
 match g with
 |none=>some none
 |some (j,w)=>match (ops[j]?).bind (·.dst)with
  |some d=>some (some (d,w))
  |none=>none
def sf (P:Program) (N:Nat) (ops:Array Oper) (o:Oper):Option bW:=
 match dV P o.type o.op,G9 ops o.guard with
 |some op,some g=>if h8 N o.dst then some ⟨o.dst,op,g⟩else none
 |_,_=>none
def xP (P:Program) (N:Nat) (ops:Array Oper):List Oper→Option (List bW)
 |[]=>some []
 |o::r=>match sf P N ops o,xP P N ops r with
  |some a,some b=>some (a::b)
  |_,_=>none
def CP (b:Array Nat) (j:Nat):Bool:=(List.range j).all fun i=>(b.getD j 0).testBit i
def jC (b:Array Nat):Nat→Nat
 |0=>0
 |j+1=>if CP b j then jC b j+1 else 0
def bW.writes (o:bW):List Nat:=
 match o.op,o.dst with
 | .store _ (.t p) _,_=>[p]
 |op,some i=>if op.makes then [i]else []
 |_,_=>[]
def bW.qR (o:bW):List Nat:=
 o.dst.toList++((o.op.ops.filterMap fun| .t n=>some n|_=>none)++(match o.guard with|some (g,_)=>[g]|none=>[]))
def ordered (b:Array Nat) (i j:Nat):Bool:=(b.getD (max i j) 0).testBit (min i j)
def bW.jU (o:bW):Bool:=match o.op with| .bj _=>true|_=>false
def bW.AY (o:bW):Bool:=match o.op with| .store _ _ _| .call _ _=>true|_=>false
def zk (b:Array Nat) (l:List bW) (i:Nat):List Nat:=
 ((l.zipIdx.filter fun(_,j)=>j !=i && !ordered b i j).flatMap fun(o,_)=>o.writes)++
 (if ((l[i]?).map bW.AY).getD false && (l.zipIdx.any fun(o,j)=>j !=i && !ordered b i j && !o.jU)then [88888888]else [])
def Qf (x y:bW):Bool:=
 (match x.dst with|some d=> !y.qR.contains d|none=>true) && (match y.dst with|some d=> !x.qR.contains d|none=>true) &&
 (x.jU||y.jU||x.writes.all fun d=> !y.writes.contains d)
def GJ (b:Array Nat) (l:List bW):Bool:=
 l.zipIdx.all fun(x,i)=>l.zipIdx.all fun(y,j)=>decide (j≤i)||ordered b i j||Qf x y
def alY (o:bW):Bool:=match o.op with
 | .app .. | .copy .. =>false
 |_=>true
def C4 (b:Array Nat) (l:List bW):List (bW×List Nat):=l.zipIdx.map fun(o,i)=>(o,zk b l i)
def CX (ops:Array Oper):Bool:=ops.toList.zipIdx.all fun(o,i)=>o.after.all fun e=> !Region.binds .any e||decide (e.on<i)
def ed (P:Program) (N:Nat):Code→Option ay
 | .skip=>some .skip
 | .region _ ops false=>(xP P N ops ops.toList).map .cR
 | .region _ ops true=>match xP P N ops ops.toList with
   |some l=>let b:=Region.before ops
    let p:=ops.size - jC b ops.size
    if (l.take p).all alY && GJ b (l.take p) && CX ops then some (.kd (C4 b (l.take p)) (l.drop p))else none
   |none=>none
 | .seq a b=>match ed P N a,ed P N b with
   |some a,some b=>some (.seq a b)
   |_,_=>none
 | .cond c a b=>match eh P c,ed P N a,ed P N b with
   |some c,some a,some b=>some (.cond c a b)
   |_,_,_=>none
 | .block id a=>(ed P N a).map (.block id)
 | .loop a=>(ed P N a).map .loop
 | .exit id=>some (.exit id)
 | .ret=>some .ret
 |_=>none
def Qg (P:Program):ResultVar→Option bx
 | .tmp t=>some (.tmp t)
 | .cell a t=>(sv P t).map fun x=> .cell a x.1 x.2
def yY (P:Program):List ResultVar→Option (List bx)
 |[]=>some []
 |r::rs=>match Qg P r,yY P rs with
  |some a,some b=>some (a::b)
  |_,_=>none
def a0 (P:Program) (f:Nat):Option (ay×List bx):=
 match P.funcs[f]? with
 |some fn=>match fn.body with
  |some c=>match ed P fn.ntmps c,yY P fn.results.toList with
   |some l,some rs=>some (l,rs)
   |_,_=>none
  |none=>none
 |none=>none
end RV
namespace RV
open Go Go.RowKit
structure dp where
 cc:Nat
 off:Nat
 len:Nat
 sz:Nat
 whole:Bool
def dp.has (r:dp) (a:Addr):Prop:=a.block=r.cc∧(r.whole=true∨(r.off≤a.off∧a.off<r.off+r.len))
abbrev bU:=Nat→Option dp
mutual
def aX (rd:Mem) (β:bU):ai→Value→Prop
 | .d x,v=>bA rd x v
 | .agg cs,v=>∃vs,v= .agg vs∧b6 rd β cs vs.toList
 | .box i off,v=>∃r,β i=some r∧v= .pointer (some (cellAt r.cc (r.off+off)))
 | .own i lo n,v=>∃A cap,v= .slice A n cap∧n≤cap∧((n=0∧cap=0)∨∃r,β i=some r∧A=some (cellAt r.cc (r.off+lo*r.sz))∧(r.whole=true→lo*r.sz+cap*r.sz≤r.len))
 | .ea i j off,v=>∃r,β i=some r∧v= .pointer (some (cellAt r.cc (r.off+j*r.sz+off)))
 | .dr f a b,v=>∃gi vc,v= .func (.func f) gi vc∧b6 rd β a gi.toList∧b6 rd β b vc.toList
 | .dF l,v=>v= .func (.yield l) #[] #[]
 | .dt,v=>v=undef
 | .any,_=>True
def b6 (rd:Mem) (β:bU):List ai→List Value→Prop
 |[],vs=>vs=[]
 |c::cs,vs=>∃v us,vs=v::us∧aX rd β c v∧b6 rd β cs us
end
mutual
theorem aX.mono {r r':Mem} (h:b7 r r') {β:bU} :∀(x:ai) (v:Value),aX r β x v→aX r' β x v
 | .d x,_,H=>by simp only[aX]at*;exact bA.mono h x _ H
 | .agg cs,_,H=>by
   simp only[aX]at*
   obtain⟨vs,e,H⟩:=H
   exact⟨vs,e,b6.mono h cs _ H⟩
 | .box _ _,_,H=>by simp only[aX]at*;exact H
 | .own _ _ _,_,H=>by simp only[aX]at*;exact H
 | .ea _ _ _,_,H=>by simp only[aX]at*;exact H
 | .dr _ x y,_,H=>by
   simp only[aX]at*
   obtain⟨gi,vc,e,H1,fk⟩:=H
   exact⟨gi,vc,e,b6.mono h x _ H1,b6.mono h y _ fk⟩
 | .dF _,_,H=>by simp only[aX]at*;exact H
 | .dt,_,H=>by simp only[aX]at*;exact H
 | .any,_,_=>by simp only[aX]
theorem b6.mono {r r':Mem} (h:b7 r r') {β:bU} :∀(xs:List ai) (vs:List Value),b6 r β xs vs→b6 r' β xs vs
 |[],_,H=>by simpa only[b6]using H
 |x::xs,_,H=>by
  simp only[b6]at*
  obtain⟨v,us,e,h1,h2⟩:=H
  exact⟨v,us,e,aX.mono h x v h1,b6.mono h xs us h2⟩
end
mutual
theorem aX.congr {r:Mem} {β β':bU} :∀(x:ai) (v:Value),(∀j,x.has j=true→β' j=β j)→aX r β x v→aX r β' x v
 | .d x,_,_,H=>by simpa only[aX]using H
 | .agg cs,_,h,H=>by
   simp only[aX]at*
   obtain⟨vs,e,H⟩:=H
   exact⟨vs,e,b6.congr cs _ (fun j aH=>h j (by simpa only[ai.has]using aH)) H⟩
 | .box i _,_,h,H=>by
   have:=h i (by simp[ai.has])
   simp only[aX,this]at*;exact H
 | .own i _ _,_,h,H=>by
   have:=h i (by simp[ai.has])
   simp only[aX,this]at*;exact H
 | .ea i _ _,_,h,H=>by
   have:=h i (by simp[ai.has])
   simp only[aX,this]at*;exact H
 | .dr _ x y,_,h,H=>by
   simp only[aX]at*
   obtain⟨gi,vc,e,H1,fk⟩:=H
   exact⟨gi,vc,e,b6.congr x _ (fun j aH=>h j (by simp[ai.has,aH])) H1,b6.congr y _ (fun j aH=>h j (by simp[ai.has,aH])) fk⟩
 | .dF _,_,_,H=>by simpa only[aX]using H
 | .dt,_,_,H=>by simpa only[aX]using H
 | .any,_,_,_=>by simp only[aX]
theorem b6.congr {r:Mem} {β β':bU} :∀(xs:List ai) (vs:List Value),(∀j,ai.cY j xs=true→β' j=β j)→b6 r β xs vs→b6 r β' xs vs
 |[],_,_,H=>by simpa only[b6]using H
 |x::xs,_,h,H=>by
  simp only[b6]at*
  obtain⟨v,us,e,h1,h2⟩:=H
  exact⟨v,us,e,aX.congr x v (fun j aH=>h j (by simp[ai.cY,aH])) h1,b6.congr xs us (fun j aH=>h j (by simp[ai.cY,aH])) h2⟩
end
theorem aX.kill {r:Mem} {β β':bU} {i:Nat} (g9:∀j,j≠i→β' j=β j) {x:ai} {v:Value} (H:aX r β x v):aX r β' (x.kill i) v:=by
 have key:aX r β' (if x.has i then ai.any else x) v:=by
  by_cases aj:x.has i=true
  ·rw[if_pos aj];simp only[aX]
  ·rw[if_neg aj]
   refine aX.congr x v (fun j aH=>g9 j fun e=>aj (e▸aH)) H
 unfold ai.kill
 split
 ·simpa [ai.has]using key
 ·exact key
def cX (w:World) (rd:Mem) (β:bU) (b:Nat):Nat→List ai→Prop
 |_,[]=>True
 |o,v::vs=>(∃u,w.cell? (cellAt b o)=some u∧aX rd β v u)∧cX w rd β b (o+1) vs
def cZ (w:World) (rd:Mem) (b:Nat):Nat→List D→Prop
 |_,[]=>True
 |o,v::vs=>(∃u,w.cell? (cellAt b o)=some u∧bA rd v u)∧cZ w rd b (o+1) vs
def hR (w:World) (rd:Mem) (b sz:Nat):Nat→List (List D)→Prop
 |_,[]=>True
 |o,r::rs=>r.length=sz∧cZ w rd b o r∧hR w rd b sz (o+sz) rs
def fq (w:World) (rd:Mem) (β:bU) (r:dp):BC→Prop
 | .cells cs=>cs.length≤r.len∧cX w rd β r.cc r.off cs
 | .ints k xs=>r.sz=1∧xs.length≤r.len∧gp w.cell? k r.cc r.off xs
 | .flts xs=>r.sz=1∧xs.length≤r.len∧gG w.cell? r.cc r.off xs
 | .recs sz xs=>r.sz=sz∧xs.length*sz≤r.len∧hR w rd r.cc sz r.off xs
def qY (w:World) (r:dp):Prop:=
 ∃arr e cE,w.heap[r.cc]? =some (.cells arr e cE)∧r.off+r.len≤arr.size∧(∀o,r.off≤o→o<r.off+r.len→¬(cE.1≤o∧o<cE.2))∧
  (r.whole=true→r.off=0∧arr.size=r.len∧cE=(0,0))
def BC.isNil:BC→Bool
 | .ints _ []| .flts []| .recs _ []=>true
 |_=>false
def A7 (R:bU) (b:Nat) (o o':Option Obj):Prop:=
 o'=o∨∃c e cE c',o=some (.cells c e cE)∧o'=some (.cells c' e cE)∧c'.size=c.size∧∀i:Nat,(∀j r,R j=some r→¬r.has (cellAt b i))→c'[i]? =c[i]?
structure iZ (R:bU) (aU w:World):Prop where
 os:w.os=aU.os
 tape:w.tape=aU.tape
 output:w.output=aU.output
 size:aU.heap.size≤w.heap.size
 block:∀k,k<aU.heap.size→A7 R k (aU.heap[k]?) (w.heap[k]?)
structure eW extends World where
 dy:Nat→Option Obj
def _root_.Go.World.base (w:World):eW:=⟨w,fun _=>none⟩
def yZ (o:Obj):Prop:=∀c t cE,o≠ .cells c t cE
def Safe (rd:Mem) (β:bU) (k:Nat) (o:Obj):Prop:=yZ o∨((∀i r,β i=some r→r.cc≠k)∧∀a:Addr,a.block=k→rd a=none)
theorem Safe.to {rd gb:Mem} {β kk:bU} {k:Nat} {o:Obj} (h:Safe rd β k o) (ar:∀a v,gb a=some v→a.block=k→rd a=some v∨∃i r,β i=some r∧r.cc=k) (g9:∀i r,kk i=some r→r.cc=k→∃j r',β j=some r'∧r'.cc=k):Safe gb kk k o:=by
 rcases h with h|⟨a,b⟩
 ·exact .inl h
 ·refine .inr ⟨fun i r hi e=> ?_,fun aV aw=> ?_⟩
  ·obtain⟨j,r',aH,e'⟩:=g9 i r hi e
   exact a j r' aH e'
  ·cases e:gb aV with
   |none=>rfl
   |some v=>
    rcases ar aV v e aw with h|⟨i,r,hi,e'⟩
    ·rw[b aV aw]at h;cases h
    ·exact absurd e' (a i r hi)
structure bl (N:Nat) (aU:eW) (aP:Mem) (R:bU) (σ:St) (a:Act) (w:World) (rd:Mem) (β:bU):Prop where
 size:a.tmps.size=N
 defers:a.defers=[]
 cV:iZ R aU.toWorld w
 dy:∀k o,aU.dy k=some o→Safe rd β k o∧w.heap[k]? =some o
 c3:b7 rd w.cell?
 dK:b7 aP rd
 aP:∀a v,rd a=some v→a.block<aU.heap.size→aP a=some v
 eX:∀i r b,β i=some r→σ.az i=some b→b.cE=false→∀a,r.has a→rd a=none
 eY:∀t,aX rd β (σ.ag t) (a.tmps.getD t undef)
 box:∀i r,β i=some r→∃b,σ.az i=some b∧fq w rd β r b.c∧qY w r∧(b.ext=false→aU.heap.size≤r.cc∧r.whole=true)∧(b.ext=true→R i=some r∧r.whole=false)
 eL:∀i b,σ.az i=some b→β i=none→(b.ext=true→R i=none)∧b.c.isNil=true
 eR:∀i j aD iQ,i≠j→β i=some aD→β j=some iQ→∀a,aD.has a→¬iQ.has a
theorem cX.mono {w w':World} {rd rd':Mem} {β β':bU} {b:Nat} :∀{cs:List ai} {o:Nat},
 (∀i,o≤i→i<o+cs.length→w'.cell? (cellAt b i)=w.cell? (cellAt b i))→(∀v∈cs,∀u,aX rd β v u→aX rd' β' v u)→
 cX w rd β b o cs→cX w' rd' β' b o cs
 |[],_,_,_,_=>trivial
 |v::vs,o,au,aC,⟨⟨u,e,H⟩,fk⟩=>
  ⟨⟨u,by rw[au o (by omega) (by simp)];exact e,aC v (by simp) u H⟩,
    cX.mono (fun i h1 h2=>au i (by omega) (by simp;omega)) (fun x aj=>aC x (by simp[aj])) fk⟩
theorem cZ.mono {w w':World} {rd rd':Mem} (hm:b7 rd rd') {b:Nat} :∀{cs:List D} {o:Nat},
 (∀i,o≤i→i<o+cs.length→w'.cell? (cellAt b i)=w.cell? (cellAt b i))→cZ w rd b o cs→cZ w' rd' b o cs
 |[],_,_,_=>trivial
 |v::vs,o,au,⟨⟨u,e,H⟩,fk⟩=>
  ⟨⟨u,by rw[au o (by omega) (by simp)];exact e,H.mono hm v u⟩,cZ.mono hm (fun i h1 h2=>au i (by omega) (by simp;omega)) fk⟩
theorem hR.mono {w w':World} {rd rd':Mem} (hm:b7 rd rd') {b sz:Nat} :∀{rs:List (List D)} {o:Nat},
 (∀i,o≤i→i<o+rs.length*sz→w'.cell? (cellAt b i)=w.cell? (cellAt b i))→hR w rd b sz o rs→hR w' rd' b sz o rs
 |[],_,_,_=>trivial
 |r::rs,o,au,⟨h1,h2,aq⟩=>by
  have e:(r::rs).length*sz=sz+rs.length*sz:=by simp[Nat.succ_mul];omega
  rw[e]at au
  exact⟨h1,h2.mono hm (fun i a b=>au i a (by omega)),hR.mono hm (fun i a b=>au i (by omega) (by omega)) aq⟩
theorem gp.cells {m ft:Mem} {k:IntKind} {b:Nat} :∀{xs:List Int} {o:Nat},(∀i,o≤i→i<o+xs.length→ft (cellAt b i)=m (cellAt b i))→gp m k b o xs→gp ft k b o xs
 |[],_,_,_=>trivial
 |_::_,o,au,⟨h1,h2⟩=>⟨by rw[au o (by omega) (by simp)];exact h1,gp.cells (fun i a b=>au i (by omega) (by simp;omega)) h2⟩
theorem gG.cells {m ft:Mem} {b:Nat} :∀{xs:List Nat} {o:Nat},(∀i,o≤i→i<o+xs.length→ft (cellAt b i)=m (cellAt b i))→gG m b o xs→gG ft b o xs
 |[],_,_,_=>trivial
 |_::_,o,au,⟨⟨y,h1,e⟩,h2⟩=>⟨⟨y,by rw[au o (by omega) (by simp)];exact h1,e⟩,gG.cells (fun i a b=>au i (by omega) (by simp;omega)) h2⟩
theorem fq.mono {w w':World} {rd rd':Mem} (hm:b7 rd rd') {β β':bU} {r:dp} {c:BC}
 (au:∀i,r.off≤i→i<r.off+r.len→w'.cell? (cellAt r.cc i)=w.cell? (cellAt r.cc i))
 (aC:∀cs,c= .cells cs→∀v∈cs,∀u,aX rd β v u→aX rd' β' v u) (H:fq w rd β r c):fq w' rd' β' r c:=by
 cases c with
 |cells cs=>exact⟨H.1,H.2.mono (fun i a b=>au i a (by have:=H.1;omega)) (aC cs rfl)⟩
 |ints k xs=>exact⟨H.1,H.2.1,H.2.2.cells fun i a b=>au i a (by have:=H.2.1;omega)⟩
 |flts xs=>exact⟨H.1,H.2.1,H.2.2.cells fun i a b=>au i a (by have:=H.2.1;omega)⟩
 |recs sz xs=>exact⟨H.1,H.2.1,H.2.2.mono hm fun i a b=>au i a (by have:=H.2.1;omega)⟩
theorem qY.lt {w:World} {r:dp} (h:qY w r):r.cc<w.heap.size:=by
 obtain⟨arr,e,cE,h,_⟩:=h
 rcases Nat.lt_or_ge r.cc w.heap.size with eU|eU
 ·exact eU
 ·rw[Array.getElem?_eq_none eU]at h;cases h
theorem qY.AO {w w':World} {r:dp} (h:qY w r) (e:w'.heap[r.cc]? =w.heap[r.cc]?):qY w' r:=by
 obtain⟨arr,t,cE,h,h2⟩:=h
 exact⟨arr,t,cE,e.trans h,h2⟩
theorem uH {w w':World} {a:Addr} (e:w'.heap[a.block]? =w.heap[a.block]?):w'.cell? a=w.cell? a:=by
 unfold World.cell?;rw[e]
theorem yQ {w:World} {a:Addr} {v:Value} (h:w.cell? a=some v):a.block<w.heap.size:=World.block_lt_of_cell? _ _ h
theorem A7.refl (R:bU) (b:Nat) (o:Option Obj):A7 R b o o:= .inl rfl
theorem A7.trans {R:bU} {b:Nat} {x y z:Option Obj} (h:A7 R b x y) (k:A7 R b y z):A7 R b x z:=by
 rcases h with rfl|⟨c,e,cE,c',h1,h2,aq,aE⟩
 ·exact k
 ·rcases k with rfl|⟨d,e',anU,rY,bE,bM,bn,h5⟩
  ·exact .inr ⟨c,e,cE,c',h1,h2,aq,aE⟩
  ·rw[h2]at bE
   simp only[Option.some.injEq,Obj.cells.injEq]at bE
   obtain⟨rfl,rfl,rfl⟩:=bE
   exact .inr ⟨c,e,cE,rY,h1,bM,bn.trans aq,fun i hi=>(h5 i hi).trans (aE i hi)⟩
theorem iZ.refl (R:bU) (w:World):iZ R w w:=⟨rfl,rfl,rfl,Nat.le_refl _,fun _ _=> .inl rfl⟩
theorem iZ.trans {R:bU} {a b c:World} (h:iZ R a b) (k:iZ R b c):iZ R a c:=
 ⟨k.os.trans h.os,k.tape.trans h.tape,k.output.trans h.output,Nat.le_trans h.size k.size,fun i hi=>(h.block i hi).trans (k.block i (Nat.lt_of_lt_of_le hi h.size))⟩
theorem iZ.below {R:bU} {aU w w':World} (h:iZ R aU w) (k:Below w.heap.size w w'):iZ R aU w':=
 h.trans ⟨k.os,k.tape,k.output,k.size,fun i hi=> .inl (k.block i hi)⟩
theorem XH {N d:Nat} (h:h8 N (some d)=true):d<N:=by simpa [h8]using h
theorem ajQ {a:Act} {N:Nat} (aG:a.tmps.size=N) {dst:Option Nat} (aL:h8 N dst=true) (u:Value) (t:Nat):
 (a.put dst u).tmps.getD t undef=if dst=some t then u else a.tmps.getD t undef:=by
 cases dst with
 |none=>simp[Act.put]
 |some d=>
  have aL:=XH aL
  by_cases e:d=t
  ·subst e
   simp[Act.put,Array.getD_eq_getD_getElem?,aG,aL]
  ·simp[Act.put,e,Array.getD_eq_getD_getElem?,Array.getElem?_setIfInBounds_ne e]
theorem fO (σ:St) (dst:Option Nat) (v:ai) (t:Nat):(σ.put dst v).ag t=if dst=some t then v else σ.ag t:=by
 cases dst with
 |none=>simp[St.put]
 |some d=>simp only[St.put,afs,Option.some.injEq];by_cases e:t=d<;>simp[e,eq_comm]
theorem p5 (σ:St) (dst:Option Nat) (v:ai):(σ.put dst v).az=σ.az:=by cases dst<;>rfl
theorem ajR (a:Act) (dst:Option Nat) (u:Value):(a.put dst u).tmps.size=a.tmps.size:=by cases dst<;>simp[Act.put]
theorem put_defers (a:Act) (dst:Option Nat) (u:Value):(a.put dst u).defers=a.defers:=by cases dst<;>rfl
section
variable {N:Nat} {aU:eW} {aP:Mem} {R:bU} {σ:St} {a:Act} {w:World} {rd:Mem} {β:bU}
theorem bl.put (h:bl N aU aP R σ a w rd β) {dst:Option Nat} (aL:h8 N dst=true) {v:ai} {u:Value} (aC:aX rd β v u):
 bl N aU aP R (σ.put dst v) (a.put dst u) w rd β where
 size:=by rw[ajR];exact h.size
 defers:=by rw[put_defers];exact h.defers
 cV:=h.cV
 dy:=h.dy
 c3:=h.c3
 dK:=h.dK
 aP:=h.aP
 eX:=by rw[p5];exact h.eX
 eY:=fun t=>by
  rw[fO,ajQ h.size aL]
  split
  ·exact aC
  ·exact h.eY t
 box:=by rw[p5];exact h.box
 eL:=by rw[p5];exact h.eL
 eR:=h.eR
theorem O1 {w b8:World} (aw:Below w.heap.size w b8) {rd gb:Mem} {β kk:bU} (ar:∀a v,gb a=some v→a.block<w.heap.size→rd a=some v) (g9:∀i r,kk i=some r→β i=some r∨w.heap.size≤r.cc) {M:Nat→Option Obj} (h:∀k o,M k=some o→Safe rd β k o∧w.heap[k]? =some o):∀k o,M k=some o→Safe gb kk k o∧b8.heap[k]? =some o:=fun k o af=>by
 obtain⟨h1,h2⟩:=h k o af
 have bw:=(Array.getElem?_eq_some_iff.1 h2).1
 exact⟨h1.to (fun a v e af=> .inl (ar a v e (by omega))) (fun i r hi e=>by rcases g9 i r hi with h|h;exact⟨i,r,h,e⟩;omega),by rw[aw.block k (Array.getElem?_eq_some_iff.1 h2).1];exact h2⟩
theorem bl.more (h:bl N aU aP R σ a w rd β) {b8:World} (aw:Below w.heap.size w b8) {gb:Mem} (hle:b7 rd gb) (hw:b7 gb b8.cell?)
 (hold:∀a v,gb a=some v→a.block<w.heap.size→rd a=some v):bl N aU aP R σ a b8 gb β where
 size:=h.size
 defers:=h.defers
 cV:=h.cV.below aw
 dy:=O1 aw hold (fun _ _ h=> .inl h) h.dy
 c3:=hw
 dK:=h.dK.trans hle
 aP:=fun a v e aJ=>h.aP a v (hold a v e (Nat.lt_of_lt_of_le aJ h.cV.size)) aJ
 eX:=fun i r b hi aj hf aV a9=>by
  obtain⟨_,_,_,a1,_⟩:=h.box i r hi
  cases e:gb aV with
  |none=>rfl
  |some v=>
   have bw:aV.block<w.heap.size:=by rw[a9.1];exact a1.lt
   have:=hold aV v e bw
   rw[h.eX i r b hi aj hf aV a9]at this
   cases this
 eY:=fun t=>(h.eY t).mono hle
 box:=fun i r hi=>by
  obtain⟨b,aj,au,a1,h1,h2⟩:=h.box i r hi
  have bw:=a1.lt
  exact⟨b,aj,au.mono hle (fun j _ _=>uH (aw.block _ bw)) (fun _ _ v _ u H=>aX.mono hle v u H),a1.AO (aw.block _ bw),h1,h2⟩
 eL:=h.eL
 eR:=h.eR
end
end RV
namespace RV
open Go Go.RowKit
noncomputable def plus (w:World) (S:Addr→Prop) (rd:Mem):Mem:=fun a=>
 match rd a with
 |some v=>some v
 |none=>open Classical in if S a then w.cell? a else none
theorem pg (w:World) (S:Addr→Prop) (rd:Mem):b7 rd (plus w S rd):=fun a v h=>by simp[plus,h]
theorem wC {w:World} {S:Addr→Prop} {rd:Mem} (h:b7 rd w.cell?):b7 (plus w S rd) w.cell? :=fun a v e=>by
 unfold plus at e
 split at e
 ·rename_i u hu;rw[←e];exact h a u hu
 ·split at e
  ·exact e
  ·cases e
theorem PI {w:World} {S:Addr→Prop} {rd:Mem} (h:b7 rd w.cell?) {a:Addr} (aG:S a):plus w S rd a=w.cell? a:=by
 unfold plus
 split
 ·rename_i u hu;exact(h a u hu).symm
 ·rw[if_pos aG]
theorem wy {w:World} {S:Addr→Prop} {rd:Mem} {a:Addr} (aG:¬S a):plus w S rd a=rd a:=by
 unfold plus
 split
 ·rename_i u hu;exact hu.symm
 ·rename_i hu;rw[if_neg aG,hu]
def jR (w w':World) (rd:Mem):Mem:=fun a=>if a.block<w.heap.size then rd a else w'.cell? a
section
variable {N:Nat} {aU:eW} {aP:Mem} {R:bU} {σ σ':St} {a:Act} {w:World} {rd:Mem} {β β':bU}
def BC.gJ (f:ai→ai):BC→BC
 | .cells cs=> .cells (cs.map f)
 |c=>c
def cr.gJ (f:ai→ai) (b:cr):cr:=⟨b.cE,b.ext,b.c.gJ f⟩
theorem cr.GX (i:Nat) (b:cr):b.kill i=b.gJ (ai.kill i):=by
 cases b with|mk f e c=>cases c<;>rfl
theorem cr.akz (b:cr):b.gJ (fun v=>v)=b:=by
 cases b with|mk f e c=>cases c<;>simp[cr.gJ,BC.gJ]
theorem cX.gJ {w w':World} {rd:Mem} {f:ai→ai} (hf:∀x v,aX rd β x v→aX rd β' (f x) v) {b:Nat} :∀{cs:List ai} {o:Nat},
 (∀i,o≤i→i<o+cs.length→w'.cell? (cellAt b i)=w.cell? (cellAt b i))→cX w rd β b o cs→cX w' rd β' b o (cs.map f)
 |[],_,_,_=>trivial
 |v::vs,o,au,⟨⟨u,e,H⟩,fk⟩=>⟨⟨u,by rw[au o (by omega) (by simp)];exact e,hf v u H⟩,cX.gJ hf (fun i h1 h2=>au i (by omega) (by simp;omega)) fk⟩
theorem fq.gJ {w w':World} {rd:Mem} {f:ai→ai} (hf:∀x v,aX rd β x v→aX rd β' (f x) v) {r:dp} {c:BC}
 (au:∀i,r.off≤i→i<r.off+r.len→w'.cell? (cellAt r.cc i)=w.cell? (cellAt r.cc i)) (H:fq w rd β r c):fq w' rd β' r (c.gJ f):=by
 cases c with
 |cells cs=>exact⟨by simpa [BC.gJ]using H.1,H.2.gJ hf (fun i a b=>au i a (by have:=H.1;omega))⟩
 |ints k xs=>exact H.mono (b7.refl _) au (fun cs e=>by cases e)
 |flts xs=>exact H.mono (b7.refl _) au (fun cs e=>by cases e)
 |recs sz xs=>exact H.mono (b7.refl _) au (fun cs e=>by cases e)
theorem CJ (f:ai→ai) (c:BC):(c.gJ f).isNil=c.isNil:=by cases c<;>rfl
theorem bl.new (h:bl N aU aP R σ a w rd β) {i:Nat} {b:cr} (he:b.ext=false) {o:Obj} {r:dp} (ar:r.cc=w.heap.size) (Ih:r.whole=true)
 {f:ai→ai} (hf:∀x v,aX rd β x v→aX rd (fun j=>if j=i then some r else β j) (f x) v)
 (BP:σ'.ag=fun t=>f (σ.ag t)) (ix:∀j,σ'.az j=if j=i then some b else (σ.az j).map (cr.gJ f))
 (au:fq (w.alloc o) rd (fun j=>if j=i then some r else β j) r b.c) (a1:qY (w.alloc o) r):
 bl N aU aP R σ' a (w.alloc o) rd (fun j=>if j=i then some r else β j)where
 size:=h.size
 defers:=h.defers
 cV:=h.cV.below ((Below.refl _ _).alloc (Nat.le_refl _) o)
 dy:=O1 ((Below.refl _ _).alloc (Nat.le_refl _) o) (fun _ _ e _=>e) (fun j r' aH=>by split at aH;simp only[Option.some.injEq]at aH;subst aH;exact .inr (by omega);exact .inl aH) h.dy
 dK:=h.dK
 c3:=fun aV v e=>by rw[World.cell?_alloc_lt _ _ _ (yQ (h.c3 aV v e))];exact h.c3 aV v e
 aP:=h.aP
 eX:=fun j r' g2 aH aj br aV a9=>by
  split at aH
  ·simp only[Option.some.injEq]at aH
   subst aH
   cases e:rd aV with
   |none=>rfl
   |some v=>have:=yQ (h.c3 aV v e);have:=a9.1;omega
  ·rename_i fy
   rw[ix,if_neg fy]at aj
   obtain⟨dc,h0,_⟩:=h.box j r' aH
   rw[h0]at aj
   simp only[Option.map_some,Option.some.injEq]at aj
   subst aj
   exact h.eX j r' dc aH h0 br aV a9
 eY:=fun t=>by rw[BP];exact hf _ _ (h.eY t)
 box:=fun j r' aH=>by
  split at aH
  ·rename_i fy
   simp only[Option.some.injEq]at aH
   subst aH
   refine⟨b,by rw[ix,if_pos fy],au,a1,fun _=>⟨by rw[ar];exact h.cV.size,Ih⟩,fun e=>by rw[he]at e;cases e⟩
  ·rename_i fy
   obtain⟨dc,h0,dL,fF,h1,h2⟩:=h.box j r' aH
   have bw:=fF.lt
   have Ii:(w.alloc o).heap[r'.cc]? =w.heap[r'.cc]? :=Below.heap_alloc _ _ _ bw
   exact⟨dc.gJ f,by rw[ix,if_neg fy,h0];rfl,dL.gJ hf (fun k _ _=>uH Ii),fF.AO Ii,h1,h2⟩
 eL:=fun j g2 aj aH=>by
  split at aH
  ·cases aH
  ·rename_i fy
   rw[ix,if_neg fy]at aj
   cases h0:σ.az j with
   |none=>rw[h0]at aj;cases aj
   |some dc=>
    rw[h0]at aj
    simp only[Option.map_some,Option.some.injEq]at aj
    subst aj
    obtain⟨bE,bM⟩:=h.eL j dc h0 aH
    exact⟨bE,by rw[←bM];exact CJ f dc.c⟩
 eR:=fun j k iQ qE sM aH af aV a9 c4=>by
  split at aH<;>split at af
  ·omega
  ·simp only[Option.some.injEq]at aH
   subst aH
   obtain⟨_,_,_,fF,_⟩:=h.box k qE af
   have:=fF.lt
   have:=a9.1
   have:=c4.1
   omega
  ·simp only[Option.some.injEq]at af
   subst af
   obtain⟨_,_,_,fF,_⟩:=h.box j iQ aH
   have:=fF.lt
   have:=a9.1
   have:=c4.1
   omega
  ·exact h.eR j k iQ qE sM aH af aV a9 c4
theorem bl.aa6 (h:bl N aU aP R σ a w rd β) {i:Nat} {b:cr} (he:b.ext=false) (aQ:b.c.isNil=true)
 {f:ai→ai} (hf:∀x v,aX rd β x v→aX rd (fun j=>if j=i then none else β j) (f x) v)
 (BP:σ'.ag=fun t=>f (σ.ag t)) (ix:∀j,σ'.az j=if j=i then some b else (σ.az j).map (cr.gJ f)):
 bl N aU aP R σ' a w rd (fun j=>if j=i then none else β j)where
 size:=h.size
 defers:=h.defers
 cV:=h.cV
 dy:=fun k o af=>⟨(h.dy k o af).1.to (fun _ _ e _=> .inl e) (fun j r' aH e=>by split at aH;cases aH;exact⟨j,r',aH,e⟩),(h.dy k o af).2⟩
 c3:=h.c3
 dK:=h.dK
 aP:=h.aP
 eX:=fun j r' g2 aH aj br aV a9=>by
  split at aH
  ·cases aH
  ·rename_i fy
   rw[ix,if_neg fy]at aj
   obtain⟨dc,h0,_⟩:=h.box j r' aH
   rw[h0]at aj
   simp only[Option.map_some,Option.some.injEq]at aj
   subst aj
   exact h.eX j r' dc aH h0 br aV a9
 eY:=fun t=>by rw[BP];exact hf _ _ (h.eY t)
 box:=fun j r' aH=>by
  split at aH
  ·cases aH
  ·rename_i fy
   obtain⟨dc,h0,dL,fF,h1,h2⟩:=h.box j r' aH
   exact⟨dc.gJ f,by rw[ix,if_neg fy,h0];rfl,dL.gJ hf (fun _ _ _=>rfl),fF,h1,h2⟩
 eL:=fun j g2 aj aH=>by
  split at aH
  ·rename_i fy
   rw[ix,if_pos fy]at aj
   simp only[Option.some.injEq]at aj
   subst aj
   exact⟨(fun e=>by rw[he]at e;cases e),aQ⟩
  ·rename_i fy
   rw[ix,if_neg fy]at aj
   cases h0:σ.az j with
   |none=>rw[h0]at aj;cases aj
   |some dc=>
    rw[h0]at aj
    simp only[Option.map_some,Option.some.injEq]at aj
    subst aj
    obtain⟨bE,bM⟩:=h.eL j dc h0 aH
    exact⟨bE,by rw[←bM];exact CJ f dc.c⟩
 eR:=fun j k iQ qE sM aH af=>by
  split at aH
  ·cases aH
  ·split at af
   ·cases af
   ·exact h.eR j k iQ qE sM aH af
theorem bl.store (h:bl N aU aP R σ a w rd β) {i:Nat} {r:dp} (hi:β i=some r) {e:Bool} {c c':BC} (aj:σ.az i=some ⟨false,e,c⟩)
 {arr kf:Array Value} {t:TypeId} {cE:Nat×Nat} (hw:w.heap[r.cc]? =some (.cells arr t cE)) (fG:kf.size=arr.size)
 (g8:∀k,¬(r.off≤k∧k<r.off+r.len)→kf[k]? =arr[k]?)
 (au:fq { w with heap:=w.heap.setIfInBounds r.cc (.cells kf t cE) } rd β r c'):
 bl N aU aP R (σ.eF i ⟨false,e,c'⟩) a { w with heap:=w.heap.setIfInBounds r.cc (.cells kf t cE) } rd β:=by
 have bw:r.cc<w.heap.size:=by
  rcases Nat.lt_or_ge r.cc w.heap.size with eU|eU
  ·exact eU
  ·rw[Array.getElem?_eq_none eU]at hw;cases hw
 have Dt:∀k,k≠r.cc→(w.heap.setIfInBounds r.cc (.cells kf t cE))[k]? =w.heap[k]? :=fun k af=>Array.getElem?_setIfInBounds_ne (Ne.symm af)
 have Bb:(w.heap.setIfInBounds r.cc (.cells kf t cE))[r.cc]? =some (.cells kf t cE):=by
  rw[Array.getElem?_setIfInBounds_self_of_lt bw]
 obtain⟨dc,h0,dL,fF,gZ,fi⟩:=h.box i r hi
 rw[aj]at h0
 simp only[Option.some.injEq]at h0
 subst h0
 have fB:∀aV:Addr,¬r.has aV→World.cell? { w with heap:=w.heap.setIfInBounds r.cc (.cells kf t cE) } aV=w.cell? aV:=by
  intro aV fz
  unfold World.cell?
  dsimp only
  by_cases aw:aV.block=r.cc
  ·rw[aw,Bb,hw]
   dsimp only
   split
   ·rfl
   ·refine g8 _ fun ar=>fz ⟨aw,.inr ar⟩
  ·rw[Dt _ aw]
 have ie:iZ R aU.toWorld { w with heap:=w.heap.setIfInBounds r.cc (.cells kf t cE) } :=by
  refine⟨h.cV.os,h.cV.tape,h.cV.output,by simpa using h.cV.size,fun k af=> ?_⟩
  by_cases aw:k=r.cc
  ·subst aw
   refine(h.cV.block _ af).trans ?_
   rw[Bb,hw]
   cases e with
   |false=>have:=(gZ rfl).1;omega
   |true=>
    refine .inr ⟨arr,t,cE,kf,rfl,rfl,fG,fun k af=>g8 k fun ar=>af i r (fi rfl).1 ⟨rfl,.inr ar⟩⟩
  ·rw[Dt k aw];exact h.cV.block k af
 exact {
  size:=h.size
  defers:=h.defers
  cV:=ie
  dy:=fun k o af=>by
   obtain⟨h1,h2⟩:=h.dy k o af
   refine⟨h1,?_⟩
   by_cases aw:k=r.cc
   ·rw[aw,hw]at h2
    rcases h1 with h1|⟨h1,_⟩
    ·exact absurd (Option.some.inj h2).symm (h1 _ _ _)
    ·exact absurd aw.symm (h1 i r hi)
   ·rw[Dt k aw];exact h2
  dK:=h.dK
  c3:=fun aV v aC=>by
   rw[fB aV fun fz=>by rw[h.eX i r _ hi aj rfl aV fz]at aC;cases aC]
   exact h.c3 aV v aC
  aP:=h.aP
  eX:=fun j r' g2 aH c4 br aV a9=>by
   by_cases fy:j=i
   ·subst fy
    rw[hi]at aH
    simp only[Option.some.injEq]at aH
    subst aH
    exact h.eX j r _ hi aj rfl aV a9
   ·refine h.eX j r' g2 aH ?_ br aV a9
    simpa [St.eF,qX,fy]using c4
  eY:=h.eY
  box:=fun j r' aH=>by
   by_cases fy:j=i
   ·subst fy
    rw[hi]at aH
    simp only[Option.some.injEq]at aH
    subst aH
    refine⟨⟨false,e,c'⟩,by simp[St.eF,qX],au,?_,gZ,fi⟩
    obtain⟨amA,t0,anV,s8,bE,bM,bn⟩:=fF
    rw[hw]at s8
    simp only[Option.some.injEq,Obj.cells.injEq]at s8
    obtain⟨rfl,rfl,rfl⟩:=s8
    exact⟨kf,t,cE,Bb,by rw[fG];exact bE,bM,fun iL=>⟨(bn iL).1,by rw[fG];exact(bn iL).2.1,(bn iL).2.2⟩⟩
   ·obtain⟨cy,eJ,bR,p1,c7,g3⟩:=h.box j r' aH
    refine⟨cy,by simpa [St.eF,qX,fy]using eJ,?_,?_,c7,g3⟩
    ·refine bR.mono (b7.refl _) (fun k EK BQ=>fB _ fun fz=>h.eR i j r r' (Ne.symm fy) hi aH _ fz ⟨rfl,.inr ⟨EK,BQ⟩⟩) (fun _ _ _ _ _ H=>H)
    ·by_cases aw:r'.cc=r.cc
     ·obtain⟨amA,t0,anV,s8,bE,bM,bn⟩:=p1
      rw[aw,hw]at s8
      simp only[Option.some.injEq,Obj.cells.injEq]at s8
      obtain⟨rfl,rfl,rfl⟩:=s8
      exact⟨kf,t,cE,by rw[aw];exact Bb,by rw[fG];exact bE,bM,fun iL=>⟨(bn iL).1,by rw[fG];exact(bn iL).2.1,(bn iL).2.2⟩⟩
     ·exact p1.AO (Dt _ aw)
  eL:=fun j g2 c4 aH=>by
   by_cases fy:j=i
   ·subst fy;rw[hi]at aH;cases aH
   ·exact h.eL j g2 (by simpa [St.eF,qX,fy]using c4) aH
  eR:=h.eR }
def ja (β:bU) (vs:List ai) (aV:Addr):Prop:=∃i r,ai.cY i vs=true∧β i=some r∧r.has aV
theorem Qh (σ:St) (i j:Nat):(σ.w4 i).az j=bif i==j then (σ.az j).map (fun b=>⟨true,b.ext,b.c⟩)else σ.az j:=by
 by_cases e:j=i
 ·subst e;simp[St.w4]
 ·have:(i==j)=false:=by simp;omega
  simp[St.w4,e,this]
mutual
theorem ajS (σ:St):∀(v:ai) (j:Nat),(h7 σ v).az j=bif v.has j then (σ.az j).map (fun b=>⟨true,b.ext,b.c⟩)else σ.az j
 | .d _,j=>by simp[h7,ai.has]
 | .agg cs,j=>by simpa [h7,ai.has]using AZ σ cs j
 | .box i _,j=>Qh σ i j
 | .own i _ _,j=>Qh σ i j
 | .ea i _ _,j=>Qh σ i j
 | .dr _ x y,j=>by
   simp only[h7,ai.has]
   rw[AZ (ke σ x) y j,AZ σ x j]
   cases h1:ai.cY j x<;>cases h2:ai.cY j y<;>simp
   cases σ.az j<;>rfl
 | .dF _,j=>by simp[h7,ai.has]
 | .dt,j=>by simp[h7,ai.has]
 | .any,j=>by simp[h7,ai.has]
theorem AZ (σ:St):∀(vs:List ai) (j:Nat),(ke σ vs).az j=bif ai.cY j vs then (σ.az j).map (fun b=>⟨true,b.ext,b.c⟩)else σ.az j
 |[],j=>by simp[ke,ai.cY]
 |v::vs,j=>by
  rw[ke,AZ (h7 σ v) vs j,ajS σ v j]
  simp only[ai.cY]
  cases h1:v.has j<;>cases h2:ai.cY j vs<;>simp
  cases σ.az j<;>rfl
end
mutual
theorem ajT (σ:St):∀(v:ai),(h7 σ v).ag=σ.ag
 | .d _=>rfl
 | .agg cs=>by simpa [h7]using GY σ cs
 | .box i _=>rfl
 | .own i _ _=>rfl
 | .ea i _ _=>rfl
 | .dr _ x y=>by rw[h7,GY (ke σ x) y,GY σ x]
 | .dF _=>rfl
 | .dt=>rfl
 | .any=>rfl
theorem GY (σ:St):∀(vs:List ai),(ke σ vs).ag=σ.ag
 |[]=>rfl
 |v::vs=>by rw[ke,GY (h7 σ v) vs,ajT σ v]
end
mutual
theorem akA {σ:St} :∀(v:ai),kc σ v=true→∀j b,v.has j=true→σ.az j=some b→b.ext=false
 | .d _,_,_,_,h,_=>by simp[ai.has]at h
 | .agg cs,aJ,j,b,h,aw=>yV cs (by simpa [kc]using aJ) j b (by simpa [ai.has]using h) aw
 | .box i _,aJ,j,b,h,aw=>by
   simp only[ai.has,beq_iff_eq]at h;subst h
   simp only[kc,aw]at aJ;simpa using aJ
 | .own i _ _,aJ,j,b,h,aw=>by
   simp only[ai.has,beq_iff_eq]at h;subst h
   simp only[kc,aw]at aJ;simpa using aJ
 | .ea i _ _,aJ,j,b,h,aw=>by
   simp only[ai.has,beq_iff_eq]at h;subst h
   simp only[kc,aw]at aJ;simpa using aJ
 | .dr _ x y,aJ,j,b,h,aw=>by
   simp only[kc,Bool.and_eq_true]at aJ
   simp only[ai.has,Bool.or_eq_true]at h
   rcases h with h|h
   ·exact yV x aJ.1 j b h aw
   ·exact yV y aJ.2 j b h aw
 | .dF _,_,_,_,h,_=>by simp[ai.has]at h
 | .dt,_,_,_,h,_=>by simp[ai.has]at h
 | .any,_,_,_,h,_=>by simp[ai.has]at h
theorem yV {σ:St} :∀(vs:List ai),pq σ vs=true→∀j b,ai.cY j vs=true→σ.az j=some b→b.ext=false
 |[],_,_,_,h,_=>by simp[ai.cY]at h
 |v::vs,aJ,j,b,h,aw=>by
  simp only[pq,Bool.and_eq_true]at aJ
  simp only[ai.cY,Bool.or_eq_true]at h
  rcases h with h|h
  ·exact akA v aJ.1 j b h aw
  ·exact yV vs aJ.2 j b h aw
end
theorem bl.w4 (h:bl N aU aP R σ a w rd β) {vs:List ai} (aJ:pq σ vs=true):bl N aU aP R (ke σ vs) a w (plus w (ja β vs) rd) β where
 size:=h.size
 defers:=h.defers
 cV:=h.cV
 dy:=fun k o af=>⟨(h.dy k o af).1.to (fun aV v e aw=>by
  by_cases aG:ja β vs aV
  ·obtain⟨i,r,hi,ar,a9⟩:=aG
   exact .inr ⟨i,r,ar,by rw[←aw];exact a9.1.symm⟩
  ·rw[wy aG]at e;exact .inl e) (fun i r hi e=>⟨i,r,hi,e⟩),(h.dy k o af).2⟩
 c3:=wC h.c3
 dK:=h.dK.trans (pg _ _ _)
 aP:=fun aV v e aw=>by
  by_cases aG:ja β vs aV
  ·obtain⟨i,r,hi,ar,a9⟩:=aG
   obtain⟨b,aj,_,_,gZ,_⟩:=h.box i r ar
   have:=(gZ (yV vs aJ i b hi aj)).1
   have:=a9.1
   omega
  ·rw[wy aG]at e;exact h.aP aV v e aw
 eX:=fun i r b hi aj br aV a9=>by
  rw[AZ]at aj
  cases sN:ai.cY i vs with
  |true=>
   rw[sN]at aj
   cases aw:σ.az i with
   |none=>rw[aw]at aj;cases aj
   |some dc=>rw[aw]at aj;simp only[cond_true,Option.map_some,Option.some.injEq]at aj;subst aj;cases br
  |false=>
   rw[sN]at aj
   rw[wy]
   ·exact h.eX i r b hi aj br aV a9
   ·rintro⟨j,iQ,aH,anW,anX⟩
    by_cases e:j=i
    ·subst e;rw[aH]at sN;cases sN
    ·exact h.eR j i iQ r e anW hi aV anX a9
 eY:=fun t=>by rw[GY];exact(h.eY t).mono (pg _ _ _)
 box:=fun i r hi=>by
  obtain⟨b,aj,au,a1,gZ,fi⟩:=h.box i r hi
  have cT:fq w (plus w (ja β vs) rd) β r b.c:=au.mono (pg _ _ _) (fun _ _ _=>rfl) (fun _ _ v _ u H=>aX.mono (pg _ _ _) v u H)
  rw[AZ,aj]
  cases ai.cY i vs
  ·exact⟨b,rfl,cT,a1,gZ,fi⟩
  ·exact⟨⟨true,b.ext,b.c⟩,rfl,cT,a1,gZ,fi⟩
 eL:=fun i b aj hi=>by
  rw[AZ]at aj
  cases sN:ai.cY i vs with
  |true=>
   rw[sN]at aj
   cases aw:σ.az i with
   |none=>rw[aw]at aj;cases aj
   |some dc=>
    rw[aw]at aj;simp only[cond_true,Option.map_some,Option.some.injEq]at aj;subst aj
    exact h.eL i dc aw hi
  |false=>rw[sN]at aj;exact h.eL i b aj hi
 eR:=h.eR
end
end RV
namespace RV
open Go Go.RowKit
section
variable {N:Nat} {aU:eW} {aP:Mem} {R:bU} {σ σ':St} {a:Act} {w:World} {rd:Mem} {β β':bU} {P:Program}
theorem yN {rd:Mem} :∀{ds:List D} {vs:List Value},bV rd ds vs→vs.length=ds.length
 |[],_,H=>by simp only[bV]at H;simp[H]
 |d::ds,_,H=>by
  simp only[bV]at H
  obtain⟨v,us,e,_,h2⟩:=H
  simp[e,yN h2]
theorem AA {rd:Mem} :∀{ds:List D} {vs:List Value},bV rd ds vs→b6 rd β (ds.map .d) vs
 |[],_,H=>by simpa only[bV,List.map_nil,b6]using H
 |d::ds,_,H=>by
  simp only[bV]at H
  obtain⟨v,us,e,h1,h2⟩:=H
  simp only[List.map_cons,b6]
  exact⟨v,us,e,by simpa only[aX]using h1,AA h2⟩
theorem tq {rd:Mem} {d:D} {u:Value} (h:bA rd d u):aX rd β (dn d) u:=by
 cases d<;>simp only[dn,aX]<;>try exact h
 rename_i cs
 simp only[bA]at h
 obtain⟨vs,e,H⟩:=h
 exact⟨vs,e,AA H⟩
theorem XI {rd:Mem} {t:TypeId} {v:Value} {d:D} (h:G8 P t v=some d):bA rd d v:=by
 unfold G8 at h
 split at h
 ·simp only[Option.some.injEq]at h;subst h;simp only[bA]
 ·simp only[Option.some.injEq]at h;subst h;simp only[bA]
 ·split at h
  ·cases h
  ·rename_i b aw
   simp only[Option.some.injEq]at h;subst h
   simp only[bA]
   exact⟨b,rfl,by simp[g6,aw]⟩
 ·cases af:sL P t with
  |none=>rw[af]at h;cases h
  |some k=>
   rw[af]at h
   simp only[Option.map_some,Option.some.injEq]at h
   subst h
   cases k<;>simp only[eG.empty,bA,List.length_nil]<;>exact⟨none,0,rfl,Nat.le_refl _,.inl trivial⟩
 ·simp only[Option.some.injEq]at h;subst h;simp only[bA]
 ·simp only[Option.some.injEq]at h;subst h;simp only[bA]
 ·cases h
theorem Ou {rd:Mem} :∀{dv:List TypeId} {vs:List Value} {ds:List D},xO P dv vs=some ds→bV rd ds vs
 |[],[],ds,h=>by simp only[xO,Option.some.injEq]at h;subst h;simp only[bV]
 |[],_::_,_,h=>by simp[xO]at h
 |_::_,[],_,h=>by simp[xO]at h
 |t::dv,v::vs,ds,h=>by
  simp only[xO]at h
  split at h
  ·rename_i d tW h1 h2
   simp only[Option.some.injEq]at h;subst h
   simp only[bV]
   exact⟨v,vs,rfl,XI h1,Ou h2⟩
  ·cases h
theorem yR (h:bl N aU aP R σ a w rd β) {t:TypeId} {x:Operand} {l:bB} (ah:qP P t x=some l):aX rd β (σ.a3 l) (a.eval x):=by
 unfold qP at ah
 split at ah
 ·simp only[Option.some.injEq]at ah;subst ah;exact h.eY _
 ·simp only[Option.some.injEq]at ah;subst ah
  simp only[St.a3,dn,aX,Act.eval,bA]
  exact⟨#[],#[],rfl,by simp only[bV],by simp only[bV]⟩
 ·rename_i cs
  split at ah
  ·rename_i dv _
   cases au:xO P dv cs.toList with
   |none=>rw[au]at ah;cases ah
   |some ds=>
    rw[au]at ah
    simp only[Option.map_some,Option.some.injEq]at ah;subst ah
    show aX rd β (dn (.agg ds)) (.agg cs)
    refine tq ?_
    simp only[bA]
    exact⟨cs,rfl,Ou au⟩
  ·cases ah
 ·rename_i v _
  cases au:G8 P t v with
  |none=>rw[au]at ah;cases ah
  |some d=>
   rw[au]at ah
   simp only[Option.map_some,Option.some.injEq]at ah;subst ah
   show aX rd β (dn d) v
   exact tq (XI au)
 ·cases ah
theorem e4 (h:bl N aU aP R σ a w rd β) {x:Operand} {l:bB} (ah:eh P x=some l):aX rd β (σ.a3 l) (a.eval x):=by
 unfold eh at ah
 split at ah
 ·cases ah
 ·cases ah
 ·exact yR h ah
theorem uJ (h:bl N aU aP R σ a w rd β):∀{dv:List TypeId} {xs:List Operand} {ls:List bB},qM P dv xs=some ls→b6 rd β (cG σ ls) (xs.map a.eval)
 |_,[],ls,ah=>by
  cases ‹List TypeId› <;>simp only[qM,Option.some.injEq]at ah<;>subst ah<;>simp only[cG,List.map_nil,b6]
 |[],x::xs,ls,ah=>by simp[qM]at ah
 |t::dv,x::xs,ls,ah=>by
  simp only[qM]at ah
  split at ah
  ·rename_i v vs h1 h2
   simp only[Option.some.injEq]at ah;subst ah
   simp only[cG,List.map_cons,b6]
   exact⟨_,_,rfl,yR h h1,uJ h h2⟩
  ·cases ah
theorem gp.sub {m:Mem} {k:IntKind} {b:Nat} :∀{xs:List Int} {o lo:Nat} (n:Nat),gp m k b o xs→gp m k b (o+lo) ((xs.drop lo).take n)
 |[],o,lo,n,_=>by simp[gp]
 |x::xs,o,0,0,_=>by simp[gp]
 |x::xs,o,0,n+1,⟨h1,h2⟩=>by
  have:=gp.sub (lo:=0) n h2
  simp only[List.drop_zero,List.take_succ_cons,Nat.add_zero]at this⊢
  exact⟨h1,this⟩
 |x::xs,o,lo+1,n,⟨_,h2⟩=>by
  have:=gp.sub (lo:=lo) n h2
  simpa [Nat.add_assoc,Nat.add_comm 1 lo]using this
theorem gG.sub {m:Mem} {b:Nat} :∀{xs:List Nat} {o lo:Nat} (n:Nat),gG m b o xs→gG m b (o+lo) ((xs.drop lo).take n)
 |[],o,lo,n,_=>by simp[gG]
 |x::xs,o,0,0,_=>by simp[gG]
 |x::xs,o,0,n+1,⟨h1,h2⟩=>by
  have:=gG.sub (lo:=0) n h2
  simp only[List.drop_zero,List.take_succ_cons,Nat.add_zero]at this⊢
  exact⟨h1,this⟩
 |x::xs,o,lo+1,n,⟨_,h2⟩=>by
  have:=gG.sub (lo:=lo) n h2
  simpa [Nat.add_assoc,Nat.add_comm 1 lo]using this
theorem cZ.Hu {b:Nat} {S:Addr→Prop} (hm:b7 rd w.cell?):∀{ds:List D} {o:Nat},(∀i,o≤i→i<o+ds.length→S (cellAt b i))→cZ w rd b o ds→fT (plus w S rd) b o ds
 |[],_,_,_=>by simp only[fT]
 |d::ds,o,aG,⟨⟨u,e,H⟩,fk⟩=>by
  simp only[fT]
  exact⟨⟨u,by rw[PI hm (aG o (by omega) (by simp))];exact e,H.mono (pg _ _ _) d u⟩,cZ.Hu hm (fun i h1 h2=>aG i (by omega) (by simp;omega)) fk⟩
theorem hR.sub {b sz:Nat} :∀{xs:List (List D)} {o lo:Nat} (n:Nat),hR w rd b sz o xs→hR w rd b sz (o+lo*sz) ((xs.drop lo).take n)
 |[],o,lo,n,_=>by simp[hR]
 |x::xs,o,0,0,_=>by simp[hR]
 |x::xs,o,0,n+1,⟨h0,h1,h2⟩=>by
  have:=hR.sub (lo:=0) n h2
  simp only[List.drop_zero,List.take_succ_cons,Nat.zero_mul,Nat.add_zero]at this⊢
  exact⟨h0,h1,this⟩
 |x::xs,o,lo+1,n,⟨_,_,h2⟩=>by
  have:=hR.sub (lo:=lo) n h2
  have e:o+(lo+1)*sz=o+sz+lo*sz:=by rw[Nat.succ_mul];omega
  rw[e]
  simpa using this
theorem hR.Z6 {b sz:Nat} {S:Addr→Prop} (hm:b7 rd w.cell?):∀{rs:List (List D)} {o:Nat},(∀i,o≤i→i<o+rs.length*sz→S (cellAt b i))→hR w rd b sz o rs→gq (plus w S rd) b sz o rs
 |[],_,_,_=>by simp only[gq]
 |r::rs,o,aG,⟨h1,h2,aq⟩=>by
  have e:(r::rs).length*sz=sz+rs.length*sz:=by simp[Nat.succ_mul];omega
  rw[e]at aG
  simp only[gq]
  exact⟨h1,h2.Hu hm fun i a b=>aG i a (by omega),aq.Z6 hm fun i a b=>aG i (by omega) (by omega)⟩
theorem cX.Hu {b:Nat} {S:Addr→Prop} (hm:b7 rd w.cell?):∀{cs:List ai} {ds:List D} {o:Nat},sb cs=some ds→(∀i,o≤i→i<o+cs.length→S (cellAt b i))→cX w rd β b o cs→fT (plus w S rd) b o ds
 |[],ds,o,aL,_,_=>by simp only[sb,Option.some.injEq]at aL;subst aL;simp only[fT]
 |c::cs,ds,o,aL,aG,⟨⟨u,e,H⟩,fk⟩=>by
  simp only[sb]at aL
  split at aL
  ·rename_i d tW h1 h2
   simp only[Option.some.injEq]at aL;subst aL
   cases c<;>simp only[ai.Hr,Option.some.injEq,reduceCtorEq]at h1
   subst h1
   simp only[fT]
   simp only[aX]at H
   exact⟨⟨u,by rw[PI hm (aG o (by omega) (by simp))];exact e,H.mono (pg _ _ _) _ u⟩,cX.Hu hm h2 (fun i h1 h2=>aG i (by omega) (by simp;omega)) fk⟩
  ·cases aL
theorem ajU (h:bl N aU aP R σ a w rd β) {i lo n:Nat} {b:cr} (aw:σ.az i=some b) {d:D} (aL:b.c.part lo n=some d) {u:Value} (hu:aX rd β (.own i lo n) u)
 {S:Addr→Prop} (aG:∀r aV,β i=some r→r.has aV→S aV):bA (plus w S rd) d u:=by
 simp only[aX]at hu
 obtain⟨A,cap,rfl,aQ,hA⟩:=hu
 have fin:∀r,β i=some r→A=some (cellAt r.cc (r.off+lo*r.sz))→bA (plus w S rd) d (.slice A n cap):=by
  intro r ar hA
  obtain⟨g2,c4,au,a1,_⟩:=h.box i r ar
  rw[aw]at c4
  simp only[Option.some.injEq]at c4
  subst c4
  have oL:∀k,r.off≤k→k<r.off+r.len→plus w S rd (cellAt r.cc k)=w.cell? (cellAt r.cc k):=fun k h1 h2=>PI h.c3 (aG r _ ar ⟨rfl,.inr ⟨h1,h2⟩⟩)
  cases ho:b.c with
  |cells cs=>rw[ho]at aL;simp[BC.part]at aL
  |ints k xs=>
   rw[ho]at aL au
   simp only[BC.part]at aL
   split at aL
   ·rename_i hle
    simp only[Option.some.injEq]at aL;subst aL
    simp only[bA]
    have aJ:((xs.drop lo).take n).length=n:=by simp;omega
    rw[aJ]
    refine⟨A,cap,rfl,aQ,.inr ⟨_,_,hA,?_⟩⟩
    have:=au.2.2.sub (lo:=lo) n
    rw[au.1,Nat.mul_one]
    exact this.cells fun k h1 h2=>oL k (by omega) (by have:=au.2.1;rw[aJ]at h2;omega)
   ·cases aL
  |flts xs=>
   rw[ho]at aL au
   simp only[BC.part]at aL
   split at aL
   ·rename_i hle
    simp only[Option.some.injEq]at aL;subst aL
    simp only[bA]
    have aJ:((xs.drop lo).take n).length=n:=by simp;omega
    rw[aJ]
    refine⟨A,cap,rfl,aQ,.inr ⟨_,_,hA,?_⟩⟩
    have:=au.2.2.sub (lo:=lo) n
    rw[au.1,Nat.mul_one]
    exact this.cells fun k h1 h2=>oL k (by omega) (by have:=au.2.1;rw[aJ]at h2;omega)
   ·cases aL
  |recs sz xs=>
   rw[ho]at aL au
   simp only[BC.part]at aL
   split at aL
   ·rename_i hle
    simp only[Option.some.injEq]at aL;subst aL
    simp only[bA]
    have aJ:((xs.drop lo).take n).length=n:=by simp;omega
    rw[aJ]
    refine⟨A,cap,rfl,aQ,.inr ⟨_,_,hA,?_⟩⟩
    rw[au.1]
    have:=au.2.2.sub (lo:=lo) n
    refine this.Z6 h.c3 fun k h1 h2=>aG r _ ar ⟨rfl,.inr ⟨by show r.off≤k;omega,?_⟩⟩
    rw[aJ]at h2
    have aq:lo*sz+n*sz≤xs.length*sz:=by rw[←Nat.add_mul];exact Nat.mul_le_mul_right _ hle
    have:=au.2.1
    show k<r.off+r.len
    omega
   ·cases aL
 rcases hA with ⟨rfl,rfl⟩|⟨r,ar,hA,_⟩
 ·cases ho:b.c with
  |cells cs=>rw[ho]at aL;simp[BC.part]at aL
  |_=>
   rw[ho]at aL
   simp only[BC.part]at aL
   split at aL
   ·simp only[Option.some.injEq]at aL;subst aL
    simp only[bA,List.take_zero,List.length_nil]
    exact⟨A,0,rfl,Nat.le_refl _,.inl trivial⟩
   ·cases aL
 ·exact fin r ar hA
mutual
theorem toD_rep (h:bl N aU aP R σ a w rd β) {S:Addr→Prop} :∀(v:ai) (u:Value) (d:D),toD σ v=some d→aX rd β v u→(∀i r aV,v.has i=true→β i=some r→r.has aV→S aV)→bA (plus w S rd) d u
 | .d x,u,d,aL,hu,_=>by
   simp only[toD,Option.some.injEq]at aL;subst aL
   simp only[aX]at hu
   exact hu.mono (pg _ _ _) _ _
 | .agg cs,u,d,aL,hu,aG=>by
   simp only[toD]at aL
   split at aL
   ·rename_i ds hE
    simp only[Option.some.injEq]at aL;subst aL
    simp only[aX]at hu
    obtain⟨vs,rfl,H⟩:=hu
    simp only[bA]
    exact⟨vs,rfl,toDs_rep h cs _ _ hE H fun i r aV hi=>aG i r aV (by simpa only[ai.has]using hi)⟩
   ·cases aL
 | .own i lo n,u,d,aL,hu,aG=>by
   simp only[toD]at aL
   split at aL
   ·rename_i b aw
    exact ajU h aw aL hu fun r aV=>aG i r aV (by simp[ai.has])
   ·cases aL
 | .box i off,u,d,aL,hu,aG=>by
   cases off with
   |succ n=>simp[toD]at aL
   |zero=>
    simp only[toD]at aL
    split at aL
    ·rename_i cE ex cs aw
     split at aL
     ·rename_i ds hE
      simp only[Option.some.injEq]at aL;subst aL
      simp only[aX]at hu
      obtain⟨r,ar,rfl⟩:=hu
      obtain⟨g2,c4,au,a1,_⟩:=h.box i r ar
      rw[aw]at c4
      simp only[Option.some.injEq]at c4
      subst c4
      simp only[bA]
      refine⟨_,_,rfl,?_⟩
      exact cX.Hu h.c3 hE (fun k h1 h2=>aG i r _ (by simp[ai.has]) ar ⟨rfl,.inr ⟨h1,by have:=au.1;show k<r.off+r.len;omega⟩⟩) au.2
     ·cases aL
    ·cases aL
 | .dr f x y,u,d,aL,hu,aG=>by
   simp only[toD]at aL
   split at aL
   ·rename_i d1 d2 h1 h2
    simp only[Option.some.injEq]at aL;subst aL
    simp only[aX]at hu
    obtain⟨gi,vc,rfl,H1,fk⟩:=hu
    simp only[bA]
    exact⟨gi,vc,rfl,toDs_rep h x _ _ h1 H1 fun i r aV hi=>aG i r aV (by simp[ai.has,hi]),toDs_rep h y _ _ h2 fk fun i r aV hi=>aG i r aV (by simp[ai.has,hi])⟩
   ·cases aL
 | .ea _ _ _,_,_,aL,_,_=>by simp[toD]at aL
 | .dF _,_,_,aL,_,_=>by simp[toD]at aL
 | .dt,_,_,aL,_,_=>by simp[toD]at aL
 | .any,_,_,aL,_,_=>by simp[toD]at aL
theorem toDs_rep (h:bl N aU aP R σ a w rd β) {S:Addr→Prop} :∀(vs:List ai) (us:List Value) (ds:List D),toDs σ vs=some ds→b6 rd β vs us→(∀i r aV,ai.cY i vs=true→β i=some r→r.has aV→S aV)→bV (plus w S rd) ds us
 |[],us,ds,aL,hu,_=>by
  simp only[toDs,Option.some.injEq]at aL;subst aL
  simpa only[b6,bV]using hu
 |v::vs,us,ds,aL,hu,aG=>by
  simp only[toDs]at aL
  split at aL
  ·rename_i d tW h1 h2
   simp only[Option.some.injEq]at aL;subst aL
   simp only[b6]at hu
   obtain⟨u,qm,rfl,H1,fk⟩:=hu
   simp only[bV]
   exact⟨u,qm,rfl,toD_rep h v u d h1 H1 fun i r aV hi=>aG i r aV (by simp[ai.cY,hi]),toDs_rep h vs qm tW h2 fk fun i r aV hi=>aG i r aV (by simp[ai.cY,hi])⟩
  ·cases aL
end
end
end RV
namespace RV
open Go Go.RowKit
section
variable {N:Nat} {aU:eW} {aP:Mem} {R:bU} {σ σ':St} {a:Act} {w:World} {rd:Mem} {β β':bU} {P:Program} {Γ:Env}
theorem gn {t:TypeId} {d:TypeDesc} (h:P.underlying t=some d) (w:World):(underlying t).run P w= .ok d w:=by
 simp[underlying,h]
theorem YD {t:TypeId} {i:TypeInfo} (h:P.info? t=some i) (w:World):(typeInfo t).run P w= .ok i w:=by
 simp[typeInfo,h]
theorem pe {t:TypeId} {n:Nat} (h:hT P t=some n) (w:World):(Go.sizeOf t).run P w= .ok n w:=by
 unfold hT at h
 cases hi:P.info? t with
 |none=>rw[hi]at h;cases h
 |some i=>rw[hi]at h;simp at h;subst h;simp[Go.sizeOf,YD hi]
theorem O2 {t:TypeId} {n:Nat} {g:Bool} (h:sv P t=some (n,g)):hT P t=some n:=by
 unfold sv at h
 unfold hT
 split at h
 ·rename_i hi;simp only[Option.some.injEq,Prod.mk.injEq]at h;rw[hi,←h.1];rfl
 ·rename_i hi;simp only[Option.some.injEq,Prod.mk.injEq]at h;rw[hi,←h.1];rfl
 ·rename_i hi
  split at h
  ·rename_i h1;simp only[Option.some.injEq,Prod.mk.injEq]at h;rw[hi,←h.1];simp[h1]
  ·cases h
 ·cases h
theorem Pk {t:TypeId} {n:Nat} (h:sv P t=some (n,false)):n=1:=by
 unfold sv at h
 split at h
 ·simp at h
 ·simp at h
 ·split at h
  ·simp only[Option.some.injEq,Prod.mk.injEq]at h;exact h.1.symm
  ·cases h
 ·cases h
theorem Kw {t:TypeId} {n:Nat} {g:Bool} (h:sv P t=some (n,g)) (w:World):(isAgg t).run P w= .ok g w:=by
 unfold sv at h
 split at h
 ·rename_i hu _;simp only[Option.some.injEq,Prod.mk.injEq]at h;simp[isAgg,gn hu,←h.2]
 ·rename_i hu _;simp only[Option.some.injEq,Prod.mk.injEq]at h;simp[isAgg,gn hu,←h.2]
 ·rename_i d i h1 h2 hu _
  split at h
  ·simp only[Option.some.injEq,Prod.mk.injEq]at h
   have e:=h.2
   cases d<;>first
    |exact(h1 _ rfl).elim
    |exact(h2 _ _ rfl).elim
    |simp[isAgg,gn hu,←e]
  ·cases h
 ·cases h
theorem wv (b o i:Nat):(cellAt b o).add i=cellAt b (o+i):=by
 unfold Addr.add cellAt
 split
 ·rename_i h;simp[h]
 ·rfl
def Yields (P:Program) (N:Nat) (aU:eW) (aP:Mem) (R:bU) (σ:St) (a:Act) (w:World) (β:bU) (s:Sem Value) (K:ai→Prop):Prop:=
 ∃av u w' rd',K av∧bl N aU aP R σ a w' rd' β∧aX rd' β av u∧s.run P w= .ok u w'
theorem Yields.here {s:Sem Value} {K:ai→Prop} (h:bl N aU aP R σ a w rd β) {av:ai} {u:Value} (af:K av) (ar:aX rd β av u) (aG:s.run P w= .ok u w):
 Yields P N aU aP R σ a w β s K:=⟨av,u,w,rd,af,h,ar,aG⟩
theorem WZ {b:Nat} :∀(n o i:Nat) (acc:Array Value) (us:List Value),us.length=n→(∀j,j<n→w.cell? (cellAt b (o+i+j))=us[j]?)→
 (loadCellsFrom (cellAt b o) i n acc).run P w= .ok (acc++us.toArray) w
 |0,o,i,acc,us,aJ,_=>by
  have:us=[]:=List.eq_nil_of_length_eq_zero aJ
  subst this
  simp[loadCellsFrom]
 |n+1,o,i,acc,[],aJ,_=>by simp at aJ
 |n+1,o,i,acc,u::us,aJ,au=>by
  have h0:=au 0 (by omega)
  simp only[Nat.add_zero,List.getElem?_cons_zero]at h0
  have cM:=WZ n o (i+1) (acc.push u) us (by simpa using aJ) (fun j aH=>by
   have:=au (j+1) (by omega)
   rw[List.getElem?_cons_succ]at this
   rw[←this];congr 2;omega)
  simp only[loadCellsFrom,Sem.run_bind,wv,run_load,h0,Result.andThen_ok]
  rw[cM]
  simp
theorem cX.HD {b:Nat} :∀{cs:List ai} {o:Nat},cX w rd β b o cs→∃us:List Value,b6 rd β cs us∧us.length=cs.length∧∀j,j<cs.length→w.cell? (cellAt b (o+j))=us[j]?
 |[],_,_=>⟨[],by simp only[b6],rfl,fun j aH=>by simp at aH⟩
 |c::cs,o,⟨⟨u,e,H⟩,fk⟩=>by
  obtain⟨us,h1,h2,aq⟩:=cX.HD fk
  refine⟨u::us,by simp only[b6];exact⟨u,us,rfl,H,h1⟩,by simp[h2],fun j aH=> ?_⟩
  cases j with
  |zero=>simpa using e
  |succ j=>rw[List.getElem?_cons_succ,←aq j (by simpa using aH)];congr 2;omega
theorem cX.drop {b:Nat} :∀{cs:List ai} {o:Nat} (k:Nat),cX w rd β b o cs→cX w rd β b (o+k) (cs.drop k)
 |cs,o,0,h=>by simpa using h
 |[],o,k+1,_=>by simp[cX]
 |c::cs,o,k+1,⟨_,h⟩=>by
  have:=cX.drop k h
  simpa [Nat.add_assoc,Nat.add_comm 1 k]using this
theorem cX.take {b:Nat} :∀{cs:List ai} {o:Nat} (k:Nat),cX w rd β b o cs→cX w rd β b o (cs.take k)
 |cs,o,0,_=>by simp[cX]
 |[],o,k+1,_=>by simp[cX]
 |c::cs,o,k+1,⟨h0,h⟩=>by
  simp only[List.take_succ_cons,cX]
  exact⟨h0,cX.take k h⟩
theorem cX.get {b:Nat} {cs:List ai} {o k:Nat} (h:cX w rd β b o cs) {v:ai} (aC:cs[k]? =some v):∃u,w.cell? (cellAt b (o+k))=some u∧aX rd β v u:=by
 have af:k<cs.length:=by
  rcases Nat.lt_or_ge k cs.length with h|h
  ·exact h
  ·rw[List.getElem?_eq_none h]at aC;cases aC
 have h2:=h.drop k
 have e:cs.drop k=v::cs.drop (k+1):=by
  rw[List.drop_eq_getElem_cons af]
  rw[List.getElem?_eq_getElem af]at aC
  simp only[Option.some.injEq]at aC
  rw[aC]
 rw[e]at h2
 exact h2.1
theorem Kj {t:TypeId} {n:Nat} {g:Bool} (ah:sv P t=some (n,g)) {b o:Nat} {cs:List ai} (h:cX w rd β b o cs) (aJ:cs.length=n):
 ∃u,(Instr.loadAt t (.pointer (some (cellAt b o)))).run P w= .ok u w∧(g=true→aX rd β (.agg cs) u)∧(g=false→∀c,cs=[c]→aX rd β c u):=by
 obtain⟨us,h1,h2,aq⟩:=h.HD
 cases g with
 |true=>
  refine⟨.agg us.toArray,?_,fun _=>by simp only[aX];exact⟨us.toArray,rfl,by simpa using h1⟩,(fun e=>by cases e)⟩
  have ar:=WZ (P:=P) (w:=w) (b:=b) n o 0 #[] us (by omega) (fun j aH=>by simpa using aq j (by omega))
  simp only[Instr.loadAt,Instr.sureAddr,loadVar,Sem.run_bind,Sem.run_pure,Result.andThen_ok,Kw ah,if_true,pe (O2 ah),loadCells,ar]
  simp
 |false=>
  have aQ:=Pk ah
  subst aQ
  match cs,us,aJ,h1,aq with
  |[c],us,_,h1,aq=>
   simp only[b6]at h1
   obtain⟨u,qm,rfl,H,rfl⟩:=h1
   refine⟨u,?_,(fun e=>by cases e),fun _ c' cT=>by simp at cT;subst cT;exact H⟩
   have:=aq 0 (by simp)
   simp only[Nat.add_zero,List.getElem?_cons_zero]at this
   simp only[Instr.loadAt,Instr.sureAddr,loadVar,Sem.run_bind,Sem.run_pure,Result.andThen_ok,Kw ah,Bool.false_eq_true,if_false,run_load,this]
theorem cX.Pl {b:Nat} (hm:b7 rd w.cell?):∀{ds:List D} {o:Nat},fT rd b o ds→cX w rd β b o (ds.map .d)
 |[],_,_=>trivial
 |d::ds,o,h=>by
  simp only[fT]at h
  obtain⟨⟨v,e,H⟩,fk⟩:=h
  exact⟨⟨v,hm _ _ e,by simpa only[aX]using H⟩,cX.Pl hm fk⟩
theorem cX.X0 {b:Nat} :∀{ds:List D} {o:Nat},cZ w rd b o ds→cX w rd β b o (ds.map .d)
 |[],_,_=>trivial
 |d::ds,o,⟨⟨u,e,H⟩,fk⟩=>⟨⟨u,e,by simpa only[aX]using H⟩,cX.X0 fk⟩
theorem gp.getD {m:Mem} {k:IntKind} {b:Nat} :∀{xs:List Int} {o j:Nat},gp m k b o xs→j<xs.length→m (cellAt b (o+j))=some (.int k (xs.getD j 0))
 |x::xs,o,0,⟨h,_⟩,_=>by simpa using h
 |x::xs,o,j+1,⟨_,h⟩,aH=>by
  have:=gp.getD (j:=j) h (by simpa using aH)
  rw[List.getD_cons_succ,←this];congr 2;omega
theorem gG.getD {m:Mem} {b:Nat} :∀{xs:List Nat} {o j:Nat},gG m b o xs→j<xs.length→∃y,m (cellAt b (o+j))=some (.float .f64 y)∧g6 y=xs.getD j 0
 |x::xs,o,0,⟨h,_⟩,_=>by simpa using h
 |x::xs,o,j+1,⟨_,h⟩,aH=>by
  obtain⟨y,h1,h2⟩:=gG.getD (j:=j) h (by simpa using aH)
  refine⟨y,?_,by rw[List.getD_cons_succ];exact h2⟩
  rw[←h1];congr 2;omega
theorem hR.getD {b sz:Nat} :∀{rs:List (List D)} {o j:Nat},hR w rd b sz o rs→j<rs.length→(rs.getD j []).length=sz∧cZ w rd b (o+j*sz) (rs.getD j [])
 |r::rs,o,0,⟨h0,h1,_⟩,_=>by simpa using ⟨h0,h1⟩
 |r::rs,o,j+1,⟨_,_,h⟩,aH=>by
  obtain⟨h1,h2⟩:=hR.getD (j:=j) h (by simpa using aH)
  rw[List.getD_cons_succ]
  exact⟨h1,by rw[show o+(j+1)*sz=o+sz+j*sz from by rw[Nat.succ_mul];omega];exact h2⟩
theorem ah6 {t:TypeId} {n:Nat} {g:Bool} (ah:sv P t=some (n,g)) (h:bl N aU aP R σ a w rd β) {v:ai} {u:Value} (hu:aX rd β v u) {K:ai→Prop} (af:kv σ n g v K):
 Yields P N aU aP R σ a w β (Instr.loadAt t u) K:=by
 have one:∀{b o:Nat} {c:ai},g=false→K c→cX w rd β b o [c]→Yields P N aU aP R σ a w β (Instr.loadAt t (.pointer (some (cellAt b o)))) K:=by
  intro b o c bh au H
  subst bh
  obtain⟨x,h1,_,h2⟩:=Kj ah H (by rw[Pk ah];rfl)
  exact Yields.here h au (h2 rfl c rfl) h1
 have many:∀{b o:Nat} {cs:List ai},g=true→K (.agg cs)→cs.length=n→cX w rd β b o cs→Yields P N aU aP R σ a w β (Instr.loadAt t (.pointer (some (cellAt b o)))) K:=by
  intro b o cs bh au aJ H
  subst bh
  obtain⟨x,h1,h2,_⟩:=Kj ah H aJ
  exact Yields.here h au (h2 rfl) h1
 unfold kv at af
 split at af
 ·rename_i cs
  simp only[aX,bA]at hu
  obtain⟨b,o,rfl,H⟩:=hu
  have H:=cX.Pl (β:=β) h.c3 H
  cases bh:g with
  |true=>
   rw[bh]at af
   simp only[if_true]at af
   have fk:=H.take n
   rw[←List.map_take]at fk
   exact many bh af.2 (by simp;omega) fk
  |false=>
   rw[bh]at af
   simp only[Bool.false_eq_true,if_false]at af
   cases cs with
   |nil=>exact af.elim
   |cons d ds=>exact one bh af ⟨H.1,trivial⟩
 ·rename_i i off
  simp only[aX]at hu
  obtain⟨r,ar,rfl⟩:=hu
  split at af
  ·rename_i cE ex cs aw
   obtain⟨g2,c4,au,a1,_⟩:=h.box i r ar
   rw[aw]at c4
   simp only[Option.some.injEq]at c4
   subst c4
   cases bh:g with
   |true=>
    rw[bh]at af
    simp only[if_true]at af
    exact many bh af.2 (by simp;omega) ((au.2.drop off).take n)
   |false=>
    rw[bh]at af
    simp only[Bool.false_eq_true,if_false]at af
    split at af
    ·rename_i v aC
     obtain⟨x,h1,h2⟩:=au.2.get aC
     exact one bh af ⟨⟨x,h1,h2⟩,trivial⟩
    ·exact af.elim
  ·exact af.elim
 ·rename_i i j off
  simp only[aX]at hu
  obtain⟨r,ar,rfl⟩:=hu
  obtain⟨g2,c4,au,a1,_⟩:=h.box i r ar
  split at af
  ·rename_i cE ex k xs aw
   rw[aw]at c4
   simp only[Option.some.injEq]at c4
   subst c4
   obtain⟨rfl,bh,aH,af⟩:=af
   refine one bh af ⟨⟨.int k (xs.getD j 0),?_,by simp only[aX,bA]⟩,trivial⟩
   have:=au.2.2.getD aH
   rw[au.1];simpa using this
  ·rename_i cE ex xs aw
   rw[aw]at c4
   simp only[Option.some.injEq]at c4
   subst c4
   obtain⟨rfl,bh,aH,af⟩:=af
   obtain⟨y,h1,h2⟩:=au.2.2.getD aH
   refine one bh af ⟨⟨.float .f64 y,?_,by simp only[aX,bA];exact⟨y,rfl,h2⟩⟩,trivial⟩
   rw[au.1];simpa using h1
  ·rename_i cE ex sz xs aw
   rw[aw]at c4
   simp only[Option.some.injEq]at c4
   subst c4
   obtain⟨aH,af⟩:=af
   obtain⟨aJ,aL⟩:=au.2.2.getD aH
   have H:=cX.X0 (β:=β) aL
   rw[au.1]
   cases bh:g with
   |true=>
    rw[bh]at af
    simp only[if_true]at af
    have fk:=(H.drop off).take n
    rw[←List.map_drop,←List.map_take]at fk
    exact many bh af.2 (by rw[List.length_map,List.length_take,List.length_drop];omega) fk
   |false=>
    rw[bh]at af
    simp only[Bool.false_eq_true,if_false]at af
    split at af
    ·rename_i d tX
     obtain⟨x,h1,h2⟩:=H.get (k:=off) (v:= .d d) (by rw[List.getElem?_map,tX];rfl)
     exact one bh af ⟨⟨x,h1,h2⟩,trivial⟩
    ·exact af.elim
  ·exact af.elim
 ·exact af.elim
end
end RV
namespace RV
open Go Go.RowKit
theorem XJ:(Ieee.double.read HA).isNaN=true:=by decide
theorem Gw {b:Nat} (h:(Ieee.double.read b).isNaN=true):g6 b=HA:=by simp[g6,h]
theorem Kk {b:Nat} (h:(Ieee.double.read b).isNaN=false):g6 b=b:=by simp[g6,h]
theorem Xa (b:Nat):(Ieee.double.read (g6 b)).isNaN=(Ieee.double.read b).isNaN:=by
 cases h:(Ieee.double.read b).isNaN
 ·rw[Kk h,h]
 ·rw[Gw h,XJ]
theorem xJ {d:Ieee.Datum} (h:d.isNaN=true):∃s t,d= .nan s t:=by
 cases d<;>simp[Ieee.Datum.isNaN]at h;exact⟨_,_,rfl⟩
theorem X1 {d e:Ieee.Datum} (h:d.isNaN=true):d.sum e=none:=by obtain⟨s,t,rfl⟩:=xJ h;rfl
theorem X2 {d e:Ieee.Datum} (h:e.isNaN=true):d.sum e=none:=by obtain⟨s,t,rfl⟩:=xJ h;cases d<;>rfl
theorem aiv {d e:Ieee.Datum} (h:d.isNaN=true):d.product e=none:=by obtain⟨s,t,rfl⟩:=xJ h;rfl
theorem aiw {d e:Ieee.Datum} (h:e.isNaN=true):d.product e=none:=by obtain⟨s,t,rfl⟩:=xJ h;cases d<;>rfl
theorem aix {n:Nat} {d e:Ieee.Datum} (h:d.isNaN=true):d.quotient n e=none:=by obtain⟨s,t,rfl⟩:=xJ h;rfl
theorem aiy {n:Nat} {d e:Ieee.Datum} (h:e.isNaN=true):d.quotient n e=none:=by obtain⟨s,t,rfl⟩:=xJ h;cases d<;>rfl
theorem ah7 {d e:Ieee.Datum} (h:d.isNaN=true):d.order e=none:=by obtain⟨s,t,rfl⟩:=xJ h;rfl
theorem ah8 {d e:Ieee.Datum} (h:e.isNaN=true):d.order e=none:=by obtain⟨s,t,rfl⟩:=xJ h;cases d<;>rfl
theorem akB {d:Ieee.Datum} (h:d.isNaN=true):d.opposite.isNaN=true:=by obtain⟨s,t,rfl⟩:=xJ h;rfl
theorem Ha {α:Type} (f:Ieee.Datum→Ieee.Datum→Option α) (aJ:∀d e,d.isNaN=true→f d e=none) (ar:∀d e,e.isNaN=true→f d e=none) (x y:Nat):
 f (Ieee.double.read (g6 x)) (Ieee.double.read (g6 y))=f (Ieee.double.read x) (Ieee.double.read y):=by
 cases aj:(Ieee.double.read x).isNaN
 ·cases hy:(Ieee.double.read y).isNaN
  ·rw[Kk aj,Kk hy]
  ·rw[ar _ _ hy,ar _ _ (by rw[Xa];exact hy)]
 ·rw[aJ _ _ aj,aJ _ _ (by rw[Xa];exact aj)]
theorem aja (x y:Nat):Ieee.double.add (g6 x) (g6 y)=Ieee.double.add x y:=
 Ha (fun d e=>(d.sum e).map Ieee.double.write) (fun _ _ h=>by simp[X1 h]) (fun _ _ h=>by simp[X2 h]) x y
theorem ajb (x y:Nat):Ieee.double.sub (g6 x) (g6 y)=Ieee.double.sub x y:=
 Ha (fun d e=>(d.sum e.opposite).map Ieee.double.write) (fun _ _ h=>by simp[X1 h]) (fun _ _ h=>by simp[X2 (akB h)]) x y
theorem ajc (x y:Nat):Ieee.double.mul (g6 x) (g6 y)=Ieee.double.mul x y:=
 Ha (fun d e=>(d.product e).map Ieee.double.write) (fun _ _ h=>by simp[aiv h]) (fun _ _ h=>by simp[aiw h]) x y
theorem ajd (x y:Nat):Ieee.double.div (g6 x) (g6 y)=Ieee.double.div x y:=
 Ha (fun d e=>(d.quotient 54 e).map Ieee.double.write) (fun _ _ h=>by simp[aix h]) (fun _ _ h=>by simp[aiy h]) x y
theorem ah9 (x y:Nat):Ieee.double.order (g6 x) (g6 y)=Ieee.double.order x y:=
 Ha (fun d e=>d.order e) (fun _ _ h=>ah7 h) (fun _ _ h=>ah8 h) x y
theorem Xm {b:Nat} (h:9218868437227405312<b % 9223372036854775808):(Ieee.double.read b).isNaN=true:=by
 have a4:Ieee.double.signWeight=9223372036854775808:=by decide
 have bc:Ieee.double.infRung=9218868437227405312:=by decide
 have c8:Ieee.double.binade=4503599627370496:=by decide
 unfold Ieee.Format.read
 simp only[a4,bc,c8]
 rw[if_neg (by omega),if_neg (by omega),if_neg (by omega)]
 rfl
theorem aia {b:Nat} (h:(Ieee.double.read b).isNaN=true):9218868437227405312<b % 9223372036854775808:=by
 have a4:Ieee.double.signWeight=9223372036854775808:=by decide
 have bc:Ieee.double.infRung=9218868437227405312:=by decide
 have c8:Ieee.double.binade=4503599627370496:=by decide
 unfold Ieee.Format.read at h
 simp only[a4,bc,c8]at h
 split at h
 ·simp[Ieee.Datum.isNaN]at h
 ·split at h
  ·simp[Ieee.Datum.isNaN]at h
  ·split at h
   ·simp[Ieee.Datum.isNaN]at h
   ·omega
theorem aje (t:Nat):(Ieee.double.read ((t % 2)*2^63+0x7ff0000000000000+1+(t / 2) % (2^52 - 1))).isNaN=true:=by
 refine Xm ?_
 have:=Nat.mod_lt (t / 2) (show 0<2^52 - 1 by decide)
 have:=Nat.mod_lt t (show 0<2 by decide)
 generalize t % 2=x at*
 generalize (t / 2) % (2^52 - 1)=y at*
 have aj:x=0∨x=1:=by omega
 rcases aj with rfl|rfl<;>omega
theorem ajf (b:Nat):g6 (Op.negFloat .f64 b)=LI (g6 b):=by
 unfold LI
 cases h:(Ieee.double.read b).isNaN
 ·rw[Kk h]
 ·rw[Gw h]
  have key:∀c,(Ieee.double.read c).isNaN=true→(Ieee.double.read (Op.negFloat .f64 c)).isNaN=true:=by
   intro c au
   refine Xm ?_
   have h1:=aia au
   have e:Op.negFloat .f64 c=c^^^2^63:=rfl
   rw[e,show (9223372036854775808:Nat)=2^63 by decide,Nat.xor_mod_two_pow,Nat.mod_self,Nat.xor_zero]
   exact h1
  rw[Gw (key b h),Gw (key HA XJ)]
section
variable {N:Nat} {aU:eW} {aP:Mem} {R:bU} {σ σ':St} {a:Act} {w:World} {rd:Mem} {β β':bU} {P:Program} {Γ:Env}
theorem Yields.int {s:Sem Value} {K:ai→Prop} (h:bl N aU aP R σ a w rd β) {k:IntKind} {n:Int} (af:K (.d (.int k n))) (aG:s.run P w= .ok (.int k n) w):Yields P N aU aP R σ a w β s K:=
 Yields.here h af (by simp only[aX,bA]) aG
theorem Yields.bool {s:Sem Value} {K:ai→Prop} (h:bl N aU aP R σ a w rd β) {b:Bool} (af:K (.d (.bool b))) (aG:s.run P w= .ok (.bool b) w):Yields P N aU aP R σ a w β s K:=
 Yields.here h af (by simp only[aX,bA]) aG
theorem AF {k:IntKind} {z:Int} {K:ai→Prop} (h:bl N aU aP R σ a w rd β) (af:arith k z K) {s:Sem Value} (aG:s.run P w= .ok (.int k (k.wrap z)) w):
 Yields P N aU aP R σ a w β s K:=by
 unfold arith at af
 split at af
 ·rw[IntWalk.i64_in z af.1]at aG
  exact Yields.int h af.2 aG
 ·exact Yields.int h af aG
theorem aib {op:BinOp} {t:TypeId} {k eH:IntKind} {x y:Int} {K:ai→Prop} (h:bl N aU aP R σ a w rd β) (qn:k=eH∨op= .shl∨op= .shr) (af:Bp op k x y K):
 Yields P N aU aP R σ a w β (binOp op t (.int k x) (.int eH y)) K:=by
 cases op<;>simp only[reduceCtorEq,or_false,or_self,or_true]at qn<;>(try subst qn)<;>simp only[Bp]at af
 case add=>exact AF h af (by simp[binOp,Op.intArith])
 case sub=>exact AF h af (by simp[binOp,Op.intArith])
 case mul=>exact AF h af (by simp[binOp,Op.intArith])
 case quo=>exact AF h af.2 (by simp[binOp,Op.intDiv,af.1])
 case rem=>exact Yields.int h af.2 (by simp[binOp,Op.intDiv,af.1])
 case and=>exact Yields.int h af (by simp[binOp,Op.intBits,lb])
 case or=>exact Yields.int h af (by simp[binOp,Op.intBits,Ig])
 case xor=>exact Yields.int h af (by simp[binOp,Op.intBits,adz])
 case andNot=>exact Yields.int h af (by simp[binOp,Op.intBits,Z5])
 case shl=>exact AF h af.2 (by simp[binOp,Op.shift,show¬y<0 by omega])
 case shr=>exact Yields.int h af.2 (by simp[binOp,Op.shift,show¬y<0 by omega])
 case eql=>exact Yields.bool h af (by simp[binOp,Op.intCmp])
 case neq=>exact Yields.bool h af (by simp[binOp,Op.intCmp])
 case lss=>exact Yields.bool h af (by simp[binOp,Op.intCmp])
 case leq=>exact Yields.bool h af (by simp[binOp,Op.intCmp])
 case gtr=>exact Yields.bool h af (by simp[binOp,Op.intCmp])
 case geq=>exact Yields.bool h af (by simp[binOp,Op.intCmp])
theorem bl.drew (h:bl N aU aP R σ a w rd β):bl N aU aP R σ a w.drew rd β:=
 h.more (Below.refl _ _).drew (b7.refl _) (fun a v e=>h.c3 a v e) (fun _ _ e _=>e)
def CQ (P:Program) (x y:Nat) (r:Option Nat) (w:World):Result Value:=
 match r with
 |some r=> .ok (.float .f64 r) w
 |none=>((choose (.nanBits .f64 x y)).run P w).andThen fun n w=> .ok (.float .f64 n) w
theorem J5 {op:BinOp} {x y:Nat} {r:Option Nat} {K:ai→Prop} (h:bl N aU aP R σ a w rd β) (af:K (.d (.flt (w3 r))))
 (aG:∀w,(Op.floatArith op .f64 x y).run P w=CQ P x y r w):
 Yields P N aU aP R σ a w β (Op.floatArith op .f64 x y) K:=by
 cases r with
 |some r=>exact Yields.here h af (by simp only[aX,bA];exact⟨r,rfl,rfl⟩) (aG w)
 |none=>
  refine⟨.d (.flt (w3 none)),.float .f64 ((Question.nanBits .f64 x y).cut (w.tape w.drawn (.nanBits .f64 x y))),w.drew,rd,af,h.drew,?_,?_⟩
  ·simp only[aX,bA,Question.cut]
   exact⟨_,rfl,by rw[Gw (aje _)];rfl⟩
  ·rw[aG]
   simp only[CQ,run_choose,Question.forced]
   rfl
theorem aic {op:BinOp} {t:TypeId} {x y dN e7:Nat} {K:ai→Prop} (h:bl N aU aP R σ a w rd β) (aj:g6 dN=x) (hy:g6 e7=y) (af:Bq op x y K):
 Yields P N aU aP R σ a w β (binOp op t (.float .f64 dN) (.float .f64 e7)) K:=by
 subst aj hy
 have cmp:∀{c:Bool},K (.d (.bool c))→(Op.floatCmp op .f64 dN e7).run P w= .ok (.bool c) w→binOp op t (.float .f64 dN) (.float .f64 e7)=Op.floatCmp op .f64 dN e7→
  Yields P N aU aP R σ a w β (binOp op t (.float .f64 dN) (.float .f64 e7)) K:=by
  intro c h1 h2 aq
  rw[aq]
  exact Yields.bool h h1 h2
 have bu:=ah9 dN e7
 cases op<;>simp only[Bq]at af
 case add=>
  have cn:K (.d (.flt (w3 (Ieee.double.add dN e7)))):=by unfold adA at af;rw[aja]at af;exact af
  show Yields P N aU aP R σ a w β (Op.floatArith .add .f64 dN e7) K
  refine J5 (r:=Ieee.double.add dN e7) h cn (fun w=> ?_)
  simp only[Op.floatArith,FloatKind.format]
  cases Ieee.double.add dN e7<;>simp[CQ]
 case sub=>
  have cn:K (.d (.flt (w3 (Ieee.double.sub dN e7)))):=by unfold adB at af;rw[ajb]at af;exact af
  show Yields P N aU aP R σ a w β (Op.floatArith .sub .f64 dN e7) K
  refine J5 (r:=Ieee.double.sub dN e7) h cn (fun w=> ?_)
  simp only[Op.floatArith,FloatKind.format]
  cases Ieee.double.sub dN e7<;>simp[CQ]
 case mul=>
  have cn:K (.d (.flt (w3 (Ieee.double.mul dN e7)))):=by unfold adC at af;rw[ajc]at af;exact af
  show Yields P N aU aP R σ a w β (Op.floatArith .mul .f64 dN e7) K
  refine J5 (r:=Ieee.double.mul dN e7) h cn (fun w=> ?_)
  simp only[Op.floatArith,FloatKind.format]
  cases Ieee.double.mul dN e7<;>simp[CQ]
 case quo=>
  have cn:K (.d (.flt (w3 (Ieee.double.div dN e7)))):=by unfold fdiv at af;rw[ajd]at af;exact af
  show Yields P N aU aP R σ a w β (Op.floatArith .quo .f64 dN e7) K
  refine J5 (r:=Ieee.double.div dN e7) h cn (fun w=> ?_)
  simp only[Op.floatArith,FloatKind.format]
  cases Ieee.double.div dN e7<;>simp[CQ]
 case eql=>exact cmp af (by unfold Mx;rw[bu];simp[Op.floatCmp,FloatKind.format]) rfl
 case neq=>exact cmp af (by unfold Mx;rw[bu];simp[Op.floatCmp,FloatKind.format,bne]) rfl
 case lss=>exact cmp af (by unfold flt;rw[bu];simp[Op.floatCmp,FloatKind.format]) rfl
 case leq=>exact cmp af (by unfold afp;rw[bu];simp[Op.floatCmp,FloatKind.format]) rfl
 case gtr=>exact cmp af (by unfold afq;rw[bu];simp[Op.floatCmp,FloatKind.format]) rfl
 case geq=>exact cmp af (by unfold afr;rw[bu];simp[Op.floatCmp,FloatKind.format]) rfl
end
end RV
namespace RV
open Go Go.RowKit
section
variable {N:Nat} {aU:eW} {aP:Mem} {R:bU} {σ σ':St} {a:Act} {w:World} {rd:Mem} {β β':bU} {P:Program} {Γ:Env}
theorem gq.getD {m:Mem} {b sz:Nat} :∀{rs:List (List D)} {o j:Nat},gq m b sz o rs→j<rs.length→fT m b (o+j*sz) (rs.getD j [])
 |r::rs,o,0,h,_=>by simp only[gq]at h;simpa using h.2.1
 |r::rs,o,j+1,h,aH=>by
  simp only[gq]at h
  have:=gq.getD (j:=j) h.2.2 (by simpa using aH)
  rw[List.getD_cons_succ]
  rw[show o+(j+1)*sz=o+sz+j*sz from by rw[Nat.succ_mul];omega];exact this
theorem gq.sub {m:Mem} {b sz:Nat} :∀{xs:List (List D)} {o lo:Nat} (n:Nat),gq m b sz o xs→gq m b sz (o+lo*sz) ((xs.drop lo).take n)
 |[],o,lo,n,_=>by simp[gq]
 |x::xs,o,0,0,_=>by simp[gq]
 |x::xs,o,0,n+1,h=>by
  simp only[gq]at h
  have:=gq.sub (lo:=0) n h.2.2
  simp only[List.drop_zero,List.take_succ_cons,Nat.zero_mul,Nat.add_zero,gq]at this⊢
  exact⟨h.1,h.2.1,this⟩
 |x::xs,o,lo+1,n,h=>by
  simp only[gq]at h
  have:=gq.sub (lo:=lo) n h.2.2
  have e:o+(lo+1)*sz=o+sz+lo*sz:=by rw[Nat.succ_mul];omega
  rw[e]
  simpa using this
theorem fT.drop {m:Mem} {b:Nat} :∀{ds:List D} {o:Nat} (k:Nat),fT m b o ds→fT m b (o+k) (ds.drop k)
 |ds,o,0,h=>by simpa using h
 |[],o,k+1,_=>by simp[fT]
 |d::ds,o,k+1,h=>by
  simp only[fT]at h
  have:=fT.drop k h.2
  simpa [Nat.add_assoc,Nat.add_comm 1 k]using this
theorem Kb {t e:TypeId} {n:Nat} (hu:P.underlying t=some (.slice e)) (aG:hT P e=some n) {k:IntKind} {i:Int} {b o len cap:Nat} (h0:0≤i) (h1:i<len):
 (Instr.indexAt t (.slice (some (cellAt b o)) len cap) (.int k i)).run P w= .ok (.pointer (some (cellAt b (o+i.toNat*n)))) w:=by
 simp[Instr.indexAt,asIntOf,gn hu,h0,h1,pe aG,wv]
theorem ahV {t e:TypeId} {n:Nat} (hu:P.underlying t=some (.slice e)) (aG:hT P e=some n) (h:bl N aU aP R σ a w rd β) {v:ai} {u:Value} (aC:aX rd β v u)
 {k:IntKind} {i:Int} {K:ai→Prop} (af:wF σ n v i K):Yields P N aU aP R σ a w β (Instr.indexAt t u (.int k i)) K:=by
 unfold wF at af
 split at af
 ·rename_i eH xs
  obtain⟨rfl,h0,h1,af⟩:=af
  simp only[aX,bA]at aC
  obtain⟨A,cap,rfl,_,hA⟩:=aC
  rcases hA with rfl|⟨b,o,rfl,H⟩
  ·simp at h1;omega
  ·refine Yields.here h af ?_ (Kb hu aG h0 h1)
   simp only[aX,bA,fT]
   exact⟨b,_,rfl,⟨_,by rw[Nat.mul_one];exact H.getD (by omega),rfl⟩,trivial⟩
 ·rename_i xs
  obtain⟨rfl,h0,h1,af⟩:=af
  simp only[aX,bA]at aC
  obtain⟨A,cap,rfl,_,hA⟩:=aC
  rcases hA with rfl|⟨b,o,rfl,H⟩
  ·simp at h1;omega
  ·refine Yields.here h af ?_ (Kb hu aG h0 h1)
   simp only[aX,bA,fT]
   obtain⟨y,h2,aq⟩:=H.getD (j:=i.toNat) (by omega)
   exact⟨b,_,rfl,⟨_,by rw[Nat.mul_one];exact h2,y,rfl,aq⟩,trivial⟩
 ·rename_i z xs
  obtain⟨rfl,h0,h1,af⟩:=af
  simp only[aX,bA]at aC
  obtain⟨A,cap,rfl,_,hA⟩:=aC
  rcases hA with rfl|⟨b,o,rfl,H⟩
  ·simp at h1;omega
  ·refine Yields.here h af ?_ (Kb hu aG h0 h1)
   simp only[aX,bA]
   exact⟨b,_,rfl,H.getD (by omega)⟩
 ·rename_i j lo m
  obtain⟨fG,h0,h1,af⟩:=af
  simp only[aX]at aC
  obtain⟨A,cap,rfl,aQ,hA⟩:=aC
  rcases hA with ⟨rfl,_⟩|⟨r,ar,rfl,_⟩
  ·omega
  ·obtain⟨g2,c4,au,_⟩:=h.box j r ar
   refine Yields.here h af ?_ (Kb hu aG h0 h1)
   have gd:r.sz=n:=by
    rw[c4]at fG
    cases g2 with
    |mk f e c=>cases c<;>simp only[pr,Option.some.injEq,reduceCtorEq]at fG<;>(rw[←fG];exact au.1)
   simp only[aX]
   exact⟨r,ar,by rw[gd,Nat.add_zero,Nat.add_mul,Nat.add_assoc]⟩
 ·exact af.elim
def Q8 (d n:Int):Option Value→Prop
 |none=>n=d
 |some x=>∃k,x= .int k n
def Hb (rd:Mem) (β:bU):Option ai→Option Value→Prop
 |none,none=>True
 |some v,some x=>aX rd β v x
 |_,_=>False
theorem yO {x:Option Value} {d:Int} {K:Int→Prop} {v:Option ai} (aC:Hb rd β v x) (af:bound d v K):
 ∃n,K n∧Q8 d n x:=by
 unfold bound at af
 split at af
 ·cases x with
  |none=>exact⟨d,af,rfl⟩
  |some x=>exact aC.elim
 ·rename_i k n
  cases x with
  |none=>exact aC.elim
  |some x=>simp only[Hb,aX,bA]at aC;exact⟨n,af,k,aC⟩
 ·exact af.elim
theorem Kc {t e:TypeId} {n:Nat} (hu:P.underlying t=some (.slice e)) (aG:hT P e=some n) {A:Option Addr} {len cap:Nat} {lo hi:Option Value} {l h:Int}
 (aJ:Q8 0 l lo) (dW:Q8 len h hi) (h0:0≤l) (h1:l≤h) (h2:h≤len) (aq:len≤cap):
 (Instr.sliceAt t (.slice A len cap) lo hi none).run P w= .ok (.slice (if cap=l.toNat then A else A.map (·.add (l.toNat*n))) (h.toNat - l.toNat) (cap - l.toNat)) w:=by
 have aw:∀{x:Value} {k:IntKind} {i:Int} {y:Nat} {c:BoundsCode},x= .int k i→0≤i→i≤y→(Instr.sliceBound x y c).run P w= .ok i.toNat w:=by
  intro x k i y c aj h0 h1
  subst aj
  simp[Instr.sliceBound,asIntOf,h0,h1]
 have EL:(Instr.sliceBounds true len cap lo hi none).run P w= .ok (l.toNat,h.toNat,cap) w:=by
  cases lo with
  |none=>
   have aJ:l=0:=aJ
   subst aJ
   cases hi with
   |none=>
    have dW:h=len:=dW
    subst dW;simp[Instr.sliceBounds]
   |some x=>
    obtain⟨k,aj⟩:=dW
    simp[Instr.sliceBounds,aw aj (by omega:0≤h) (by omega:h≤(cap:Int))]
  |some x=>
   obtain⟨k,aj⟩:=aJ
   cases hi with
   |none=>
    have dW:h=len:=dW
    subst dW;simp[Instr.sliceBounds,aw aj h0 h1]
   |some dN=>
    obtain⟨eH,EM⟩:=dW
    simp[Instr.sliceBounds,aw EM (by omega:0≤h) (by omega:h≤(cap:Int)),aw aj h0 (by omega:l≤((h.toNat:Nat):Int))]
 simp[Instr.sliceAt,Instr.slice,gn hu,EL,pe aG]
theorem aiz {t e:TypeId} {n:Nat} (hu:P.underlying t=some (.slice e)) (aG:hT P e=some n) (h:bl N aU aP R σ a w rd β) {v:ai} {u:Value} (aC:aX rd β v u)
 {lo hi:Option ai} {ahk ahl:Option Value} (ln:Hb rd β lo ahk)
 (sO:Hb rd β hi ahl) {K:ai→Prop} (af:ss σ n v lo hi K):
 Yields P N aU aP R σ a w β (Instr.sliceAt t u ahk ahl none) K:=by
 unfold ss at af
 split at af
 ·rename_i k xs
  simp only[aX,bA]at aC
  obtain⟨A,cap,rfl,tG,hA⟩:=aC
  obtain⟨l,af,aJ⟩:=yO ln af
  obtain⟨m,af,hm⟩:=yO sO af
  obtain⟨rfl,h0,h1,h2,af⟩:=af
  have hlen:((xs.take m.toNat).drop l.toNat).length=m.toNat - l.toNat:=by simp;omega
  refine Yields.here h af ?_ (Kc hu aG aJ hm h0 h1 h2 tG)
  simp only[aX,bA,hlen]
  refine⟨_,_,rfl,by omega,?_⟩
  rcases hA with rfl|⟨b,o,rfl,H⟩
  ·left;simp
  ·by_cases au:cap=l.toNat
   ·left;exact List.eq_nil_of_length_eq_zero (by omega)
   ·right
    refine⟨b,o+l.toNat,by rw[if_neg au];simp[wv],?_⟩
    have:=H.sub (lo:=l.toNat) (m.toNat - l.toNat)
    rwa [←List.drop_take]at this
 ·rename_i xs
  simp only[aX,bA]at aC
  obtain⟨A,cap,rfl,tG,hA⟩:=aC
  obtain⟨l,af,aJ⟩:=yO ln af
  obtain⟨m,af,hm⟩:=yO sO af
  obtain⟨rfl,h0,h1,h2,af⟩:=af
  have hlen:((xs.take m.toNat).drop l.toNat).length=m.toNat - l.toNat:=by simp;omega
  refine Yields.here h af ?_ (Kc hu aG aJ hm h0 h1 h2 tG)
  simp only[aX,bA,hlen]
  refine⟨_,_,rfl,by omega,?_⟩
  rcases hA with rfl|⟨b,o,rfl,H⟩
  ·left;simp
  ·by_cases au:cap=l.toNat
   ·left;exact List.eq_nil_of_length_eq_zero (by omega)
   ·right
    refine⟨b,o+l.toNat,by rw[if_neg au];simp[wv],?_⟩
    have:=H.sub (lo:=l.toNat) (m.toNat - l.toNat)
    rwa [←List.drop_take]at this
 ·rename_i z xs
  simp only[aX,bA]at aC
  obtain⟨A,cap,rfl,tG,hA⟩:=aC
  obtain⟨l,af,aJ⟩:=yO ln af
  obtain⟨m,af,hm⟩:=yO sO af
  obtain⟨rfl,h0,h1,h2,af⟩:=af
  have hlen:((xs.take m.toNat).drop l.toNat).length=m.toNat - l.toNat:=by simp;omega
  refine Yields.here h af ?_ (Kc hu aG aJ hm h0 h1 h2 tG)
  simp only[aX,bA,hlen]
  refine⟨_,_,rfl,by omega,?_⟩
  rcases hA with rfl|⟨b,o,rfl,H⟩
  ·left;simp
  ·by_cases au:cap=l.toNat
   ·left;exact List.eq_nil_of_length_eq_zero (by omega)
   ·right
    refine⟨b,o+l.toNat*n,by rw[if_neg au];simp[wv],?_⟩
    have:=H.sub (lo:=l.toNat) (m.toNat - l.toNat)
    rwa [←List.drop_take]at this
 ·rename_i j o len
  simp only[aX]at aC
  obtain⟨A,cap,rfl,tG,hA⟩:=aC
  obtain⟨l,af,aJ⟩:=yO ln af
  obtain⟨m,af,hm⟩:=yO sO af
  obtain⟨fG,h0,h1,h2,af⟩:=af
  refine Yields.here h af ?_ (Kc hu aG aJ hm h0 h1 h2 tG)
  simp only[aX]
  refine⟨_,_,rfl,by omega,?_⟩
  rcases hA with ⟨rfl,rfl⟩|⟨r,ar,rfl,Ih⟩
  ·left;omega
  ·by_cases au:cap=l.toNat
   ·left;omega
   ·right
    obtain⟨g2,c4,cT,_⟩:=h.box j r ar
    have gd:r.sz=n:=by
     rw[c4]at fG
     cases g2 with
     |mk f e c=>cases c<;>simp only[pr,Option.some.injEq,reduceCtorEq]at fG<;>(rw[←fG];exact cT.1)
    refine⟨r,ar,by rw[if_neg au];simp[wv,gd,Nat.add_mul,Nat.add_assoc],fun hw=> ?_⟩
    have:=Ih hw
    rw[Nat.add_mul,Nat.sub_mul]
    have:l.toNat*r.sz≤cap*r.sz:=Nat.mul_le_mul_right _ (by omega)
    omega
 ·exact af.elim
end
end RV
namespace RV
open Go Go.RowKit
section
variable {N:Nat} {aU:eW} {aP:Mem} {R:bU} {σ σ':St} {a:Act} {w:World} {rd:Mem} {β β':bU} {P:Program} {Γ:Env}
theorem yL:∀{cs:List ai} {vs:List Value},b6 rd β cs vs→vs.length=cs.length
 |[],_,H=>by simp only[b6]at H;simp[H]
 |d::ds,_,H=>by
  simp only[b6]at H
  obtain⟨v,us,e,_,h2⟩:=H
  simp[e,yL h2]
theorem xF:∀{cs ds:List ai} {vs us:List Value},b6 rd β cs vs→b6 rd β ds us→b6 rd β (cs++ds) (vs++us)
 |[],ds,vs,us,h,k=>by simp only[b6]at h;simpa [h]using k
 |c::cs,ds,vs,us,h,k=>by
  simp only[b6,List.cons_append]at*
  obtain⟨v,w5,rfl,h1,h2⟩:=h
  exact⟨v,w5++us,rfl,h1,xF h2 k⟩
theorem Ov:∀{cs:List ai} {vs:List Value} (n:Nat),b6 rd β cs vs→b6 rd β (cs.take n) (vs.take n)
 |_,_,0,_=>by simp[b6]
 |[],vs,n+1,h=>by simp only[b6]at h;simp[h,b6]
 |c::cs,vs,n+1,h=>by
  simp only[b6,List.take_succ_cons]at*
  obtain⟨v,w5,rfl,h1,h2⟩:=h
  exact⟨v,w5.take n,by simp,h1,Ov n h2⟩
theorem Ow:∀{cs:List ai} {vs:List Value} (n:Nat),b6 rd β cs vs→b6 rd β (cs.drop n) (vs.drop n)
 |_,_,0,h=>by simpa using h
 |[],vs,n+1,h=>by simp only[b6]at h;simp[h,b6]
 |c::cs,vs,n+1,h=>by
  simp only[b6]at h
  obtain⟨v,w5,rfl,h1,h2⟩:=h
  simpa using Ow n h2
theorem OL:∀{cs:List ai} {vs:List Value} {k:Nat} {c:ai},b6 rd β cs vs→cs[k]? =some c→∃v,vs[k]? =some v∧aX rd β c v
 |c::cs,vs,0,c',h,au=>by
  simp only[b6]at h
  obtain⟨v,w5,rfl,h1,h2⟩:=h
  simp at au;subst au
  exact⟨v,rfl,h1⟩
 |c::cs,vs,k+1,c',h,au=>by
  simp only[b6]at h
  obtain⟨v,w5,rfl,h1,h2⟩:=h
  have cT:cs[k]? =some c':=by simpa using au
  obtain⟨x,aq,aE⟩:=OL h2 cT
  exact⟨x,by simpa using aq,aE⟩
theorem XK {c:ai} {u:Value} (aG:c.dY=true) (h:aX rd β c u):u.cells= #[u]∧u.oneCell'=true:=by
 cases c with
 |d x=>
  cases x<;>simp only[ai.dY,Bool.false_eq_true]at aG<;>simp only[aX,bA]at h
  case bool=>subst h;exact⟨rfl,rfl⟩
  case int=>subst h;exact⟨rfl,rfl⟩
  case flt=>obtain⟨y,rfl,_⟩:=h;exact⟨rfl,rfl⟩
  case ints=>obtain⟨_,_,rfl,_⟩:=h;exact⟨rfl,rfl⟩
  case flts=>obtain⟨_,_,rfl,_⟩:=h;exact⟨rfl,rfl⟩
  case recs=>obtain⟨_,_,rfl,_⟩:=h;exact⟨rfl,rfl⟩
  case ptr=>obtain⟨_,_,rfl,_⟩:=h;exact⟨rfl,rfl⟩
  case fn=>obtain⟨_,_,rfl,_⟩:=h;exact⟨rfl,rfl⟩
  case nilfn=>subst h;exact⟨rfl,rfl⟩
  case nilp=>subst h;exact⟨rfl,rfl⟩
 |agg cs=>simp[ai.dY]at aG
 |box i o=>simp only[aX]at h;obtain⟨_,_,rfl⟩:=h;exact⟨rfl,rfl⟩
 |own i o n=>simp only[aX]at h;obtain⟨_,_,rfl,_⟩:=h;exact⟨rfl,rfl⟩
 |ea i j o=>simp only[aX]at h;obtain⟨_,_,rfl⟩:=h;exact⟨rfl,rfl⟩
 |dr f x y=>simp only[aX]at h;obtain⟨_,_,rfl,_⟩:=h;exact⟨rfl,rfl⟩
 |dF l=>simp[ai.dY]at aG
 |dt=>simp[ai.dY]at aG
 |any=>simp[ai.dY]at aG
theorem O3 {c:ai} {u:Value} (aG:c.cells.all ai.dY=true) (h:aX rd β c u):b6 rd β c.cells u.cells.toList:=by
 cases au:c with
 |agg cs=>
  subst au
  simp only[aX]at h
  obtain⟨vs,rfl,H⟩:=h
  exact H
 |_=>
  rw[←au]
  have e:c.cells=[c]:=by subst au;rfl
  rw[e]at aG⊢
  rw[(XK (by simpa using aG) h).1]
  simp only[b6]
  exact⟨u,[],rfl,h,rfl⟩
theorem KI:∀{cs:List ai} {us:List Value},cs.all ai.dY=true→b6 rd β cs us→∀u∈us,u.oneCell'=true
 |[],us,_,h=>by simp only[b6]at h;simp[h]
 |c::cs,us,aG,h=>by
  simp only[b6]at h
  obtain⟨v,qm,rfl,h1,h2⟩:=h
  simp only[List.all_cons,Bool.and_eq_true]at aG
  intro u hu
  simp only[List.mem_cons]at hu
  rcases hu with rfl|hu
  ·exact(XK aG.1 h1).2
  ·exact KI aG.2 h2 u hu
theorem O4:∀(vs:List Value) (cs:Array Value) (off k:Nat),off+k+vs.length≤cs.size→
 ((vs.zipIdx k).foldl (fun cs (x:Value×Nat)=>cs.setIfInBounds (off+x.2) x.1) cs).toList=cs.toList.take (off+k)++vs++cs.toList.drop (off+k+vs.length)
 |[],cs,off,k,_=>by simp
 |v::vs,cs,off,k,h=>by
  simp only[List.length_cons]at h
  simp only[List.zipIdx_cons,List.foldl_cons]
  rw[O4 vs _ off (k+1) (by simp;omega)]
  simp only[Array.toList_setIfInBounds,List.length_cons]
  have aJ:off+k<cs.toList.length:=by simp;omega
  have a4:(cs.toList.set (off+k) v).take (off+(k+1))=cs.toList.take (off+k)++[v]:=by
   rw[show off+(k+1)=off+k+1 by omega,List.take_succ_eq_append_getElem (by simpa using aJ),List.take_set_of_le (Nat.le_refl _)]
   simp
  have bc:(cs.toList.set (off+k) v).drop (off+(k+1)+vs.length)=cs.toList.drop (off+k+(vs.length+1)):=by
   rw[List.drop_set_of_lt (by omega)];congr 1;omega
  rw[a4,bc];simp
def PJ (rd:Mem) (β:bU) (place:Nat→Option (Nat×Nat)):List (Nat×Nat×ai)→List (Nat×Value)→Prop
 |[],[]=>True
 |p::ps,q::JG=>(place q.1=some (p.1,p.2.1)∧aX rd β p.2.2 q.2)∧PJ rd β place ps JG
 |_,_=>False
theorem Pm {place:Nat→Option (Nat×Nat)} :∀{parts:List (Nat×Nat×ai)} {Qi:List (Nat×Value)} {zero cs:List ai} {zs:Array Value},
 PJ rd β place parts Qi→
 b6 rd β zero zs.toList→wK zero parts=some cs→∃arr,Instr.fill place zs Qi=some arr∧b6 rd β cs arr.toList
 |[],_::_,_,_,_,a1,_,_=>a1.elim
 |[],[],zero,cs,zs,a1,br,hf=>by
  simp only[wK,Option.some.injEq]at hf;subst hf
  exact⟨zs,rfl,br⟩
 |_::_,[],_,_,_,a1,_,_=>a1.elim
 |(off,size,v)::parts,q::Qi,zero,cs,zs,a1,br,hf=>by
  obtain⟨⟨aq,aE⟩,h2⟩:=a1
  simp only[wK]at hf
  split at hf
  ·rename_i au
   obtain⟨bR,cN,fL⟩:=au
   have aft:=O3 fL aE
   have aJ:=yL aft
   have SR:=yL br
   have a7:q.2.cells.size=size:=by simpa [bR]using aJ
   simp only[Array.length_toList]at aJ SR
   have LJ:=O4 q.2.cells.toList zs off 0 (by simp;omega)
   obtain⟨arr,aF,aN⟩:=Pm (zs:=q.2.cells.zipIdx.foldl (fun cs (c,j)=>cs.setIfInBounds (off+j) c) zs) h2 (by
    rw[←Array.foldl_toList,Array.toList_zipIdx,LJ]
    simp only[Nat.add_zero,Array.length_toList,a7]
    exact xF (xF (Ov _ br) aft) (Ow _ br)) hf
   refine⟨arr,?_,aN⟩
   simp only[Instr.fill,aq]
   rw[if_neg (by simp[a7];omega)]
   exact aF
  ·cases hf
theorem J6 {t:TypeId} {z:List D} (h:A6 P t=some z):∃i v,P.info? t=some i∧i.zero=some v∧bV rd z v.cells.toList:=by
 unfold A6 at h
 split at h
 ·rename_i v dv aC _
  cases hi:P.info? t with
  |none=>rw[hi]at aC;cases aC
  |some i=>rw[hi]at aC;exact⟨i,v,rfl,aC,Ou h⟩
 ·cases h
theorem GK {t:TypeId} {i:TypeInfo} {v:Value} (h:P.info? t=some i) (aC:i.zero=some v) (w:World):(zeroValue t).run P w= .ok v w:=by
 simp[zeroValue,YD h,aC]
theorem Xn {α iF:Type} {f:α→Sem iF} {g:α→iF} :∀(l:List α),(∀x∈l,∀w,(f x).run P w= .ok (g x) w)→∀w,(l.mapM f).run P w= .ok (l.map g) w
 |[],_,w=>by simp
 |x::l,h,w=>by
  simp only[List.mapM_cons,Sem.run_bind,h x (by simp),Result.andThen_ok,Xn l (fun y hy=>h y (by simp[hy])),Sem.run_pure,List.map_cons]
theorem Xb:∀{fs:List Field} {pl:List (Nat×Nat×TypeId)},GW P fs=some pl→
 (∀f∈fs,∃n,hT P f.type=some n)∧pl=fs.map fun f=>(f.offset,(hT P f.type).getD 0,f.type)
 |[],pl,h=>by simp only[GW,Option.some.injEq]at h;subst h;simp
 |f::fs,pl,h=>by
  simp only[GW]at h
  split at h
  ·rename_i n ps h1 h2
   simp only[Option.some.injEq]at h;subst h
   obtain⟨aq,aE⟩:=Xb h2
   refine⟨fun g bh=> ?_,by simp[h1,aE]⟩
   simp only[List.mem_cons]at bh
   rcases bh with rfl|bh
   ·exact⟨n,h1⟩
   ·exact aq g bh
  ·cases h
theorem Oh (h:bl N aU aP R σ a w rd β) {pl:List (Nat×Nat×TypeId)} {place:Nat→Option (Nat×Nat)} (zK:∀i x,pl[i]? =some x→place i=some (x.1,x.2.1)):
 ∀{parts:List (Nat×Operand)} {ps:List (Nat×Nat×bB)},yP P pl parts=some ps→
 PJ rd β place (ps.map fun p=>(p.1,p.2.1,σ.a3 p.2.2)) (parts.map fun(i,x)=>(i,a.eval x))
 |[],ps,ah=>by simp only[yP,Option.some.injEq]at ah;subst ah;exact trivial
 |(i,x)::parts,ps,ah=>by
  simp only[yP]at ah
  split at ah
  ·rename_i off size t Mz h1 h2
   split at ah
   ·rename_i v aC
    simp only[Option.some.injEq]at ah;subst ah
    simp only[List.map_cons]
    exact⟨⟨zK i _ h1,yR h aC⟩,Oh h zK h2⟩
   ·cases ah
  ·cases ah
theorem ahW (h:bl N aU aP R σ a w rd β) {t:TypeId} {parts:Array (Nat×Operand)} {l:bJ} (ah:u1 P t parts=some l) {K:ai→Prop} (af:bz Γ σ K l):
 Yields P N aU aP R σ a w β (Instr.build t (parts.map fun(i,x)=>(i,a.eval x))) K:=by
 unfold u1 at ah
 split at ah
 ·rename_i fs z hu br
  split at ah
  ·rename_i pl zK
   cases a1:yP P pl parts.toList with
   |none=>rw[a1]at ah;cases ah
   |some ps=>
    rw[a1]at ah
    simp only[Option.map_some,Option.some.injEq]at ah;subst ah
    simp only[bz]at af
    split at af
    ·rename_i cs fH
     obtain⟨i,v,hi,aC,EN⟩:=J6 (rd:=rd) br
     obtain⟨BR,BS⟩:=Xb zK
     have akC:(fs.mapM fun f=>do pure (f.offset,←Go.sizeOf f.type):Sem (Array (Nat×Nat))).run P w= .ok (fs.map fun f=>(f.offset,(hT P f.type).getD 0)) w:=by
      rw[Array.mapM_eq_mapM_toList]
      simp only[Sem.run_map]
      rw[Xn (g:=fun f=>(f.offset,(hT P f.type).getD 0)) fs.toList (fun f hf w=>by
       obtain⟨n,aQ⟩:=BR f hf
       simp[pe aQ,aQ])]
      simp only[Result.andThen_ok]
      rw[←Array.toList_map]
     obtain⟨arr,h1,h2⟩:=Pm (zs:=v.cells) (Oh h (place:=fun i=>(fs.map fun f=>(f.offset,(hT P f.type).getD 0))[i]?) (fun i x aj=>by
      rw[BS]at aj
      simp only[List.getElem?_map]at aj
      cases hf:fs.toList[i]? with
      |none=>rw[hf]at aj;cases aj
      |some f=>
       rw[hf]at aj
       simp only[Option.map_some,Option.some.injEq]at aj;subst aj
       have EO:fs[i]? =some f:=by simpa using hf
       simp[EO]) a1) (AA EN) fH
     refine Yields.here h af (u:= .agg arr) (by simp only[aX];exact⟨arr,rfl,h2⟩) ?_
     simp only[Instr.build,Sem.run_bind,GK hi aC,Result.andThen_ok,gn hu,akC]
     have:(parts.map fun(i,x)=>(i,a.eval x)).toList=parts.toList.map fun(i,x)=>(i,a.eval x):=by simp
     rw[this,h1]
     simp
    ·exact af.elim
  ·cases ah
 ·rename_i len e z hu br
  split at ah
  ·rename_i n aQ
   cases a1:yP P ((List.range len).map fun i=>(i*n,n,e)) parts.toList with
   |none=>rw[a1]at ah;cases ah
   |some ps=>
    rw[a1]at ah
    simp only[Option.map_some,Option.some.injEq]at ah;subst ah
    simp only[bz]at af
    split at af
    ·rename_i cs fH
     obtain⟨i,v,hi,aC,EN⟩:=J6 (rd:=rd) br
     obtain⟨arr,h1,h2⟩:=Pm (zs:=v.cells) (Oh h (place:=fun i=>some (i*n,n)) (fun i x aj=>by
      simp only[List.getElem?_map]at aj
      cases hf:(List.range len)[i]? with
      |none=>rw[hf]at aj;cases aj
      |some j=>
       rw[hf]at aj
       simp only[Option.map_some,Option.some.injEq]at aj;subst aj
       have:j=i:=by
        have:=List.getElem?_eq_some_iff.1 hf
        obtain⟨bw,h⟩:=this
        simpa using h.symm
       simp[this]) a1) (AA EN) fH
     refine Yields.here h af (u:= .agg arr) (by simp only[aX];exact⟨arr,rfl,h2⟩) ?_
     simp only[Instr.build,Sem.run_bind,GK hi aC,Result.andThen_ok,gn hu,pe aQ]
     have:(parts.map fun(i,x)=>(i,a.eval x)).toList=parts.toList.map fun(i,x)=>(i,a.eval x):=by simp
     rw[this,h1]
     simp
    ·exact af.elim
  ·cases ah
 ·cases ah
end
end RV
namespace RV
open Go Go.RowKit
section
variable {N:Nat} {aU:eW} {aP:Mem} {R:bU} {σ σ':St} {a:Act} {w:World} {rd:Mem} {β β':bU} {P:Program} {Γ:Env}
def qe (us:List Value):List Value:=us.flatMap fun u=>u.cells.toList
theorem Xo {size:Nat} :∀(us:List Value) (k:Nat) (zs:Array Value),(∀u∈us,u.cells.size=size)→(k+us.length)*size≤zs.size→
 ∃arr,Instr.fill (fun i=>some (i*size,size)) zs ((us.zipIdx k).map fun x=>(x.2,x.1))=some arr∧arr.toList=zs.toList.take (k*size)++qe us++zs.toList.drop ((k+us.length)*size)
 |[],k,zs,_,_=>⟨zs,rfl,by simp[qe]⟩
 |u::us,k,zs,hu,br=>by
  have h0:=hu u (by simp)
  simp only[List.length_cons]at br
  have cm:(k+(us.length+1))*size=k*size+size+us.length*size:=by rw[Nat.add_mul,Nat.add_mul];omega
  rw[cm]at br
  have LJ:=O4 u.cells.toList zs (k*size) 0 (by simp;omega)
  obtain⟨arr,h1,h2⟩:=Xo us (k+1) (u.cells.zipIdx.foldl (fun cs (c,j)=>cs.setIfInBounds (k*size+j) c) zs) (fun v aC=>hu v (by simp[aC])) (by
   have:(u.cells.zipIdx.foldl (fun cs (c,j)=>cs.setIfInBounds (k*size+j) c) zs).toList.length=zs.size:=by
    rw[←Array.foldl_toList,Array.toList_zipIdx,LJ];simp;omega
   rw[Array.length_toList]at this
   rw[this,show (k+1+us.length)*size=k*size+size+us.length*size by rw[Nat.add_mul,Nat.add_mul];omega]
   exact br)
  refine⟨arr,?_,?_⟩
  ·simp only[List.zipIdx_cons,List.map_cons,Instr.fill]
   rw[if_neg (by simp[h0];omega)]
   exact h1
  ·rw[h2,←Array.foldl_toList,Array.toList_zipIdx,LJ]
   simp only[Nat.add_zero,Array.length_toList,h0]
   have c7:(zs.toList.take (k*size)++u.cells.toList).length=(k+1)*size:=by
    simp[h0,Nat.succ_mul];omega
   rw[List.take_append_of_le_length (by omega),List.take_of_length_le (by omega)]
   rw[show (k+1+us.length)*size=(zs.toList.take (k*size)++u.cells.toList).length+us.length*size by rw[c7,←Nat.add_mul]]
   rw[List.drop_length_add_append]
   simp only[List.drop_drop,qe,List.flatMap_cons,List.length_cons,cm]
   simp
theorem Ok {k:IntKind} {rd m:Mem} {b:Nat} :∀{ds:List D} {us:List Value} {xs:List Int} {o:Nat},sc k ds=some xs→bV rd ds us→
 (∀u∈us,u.cells.size=1)∧xs.length=us.length∧((∀j v,(qe us)[j]? =some v→m (cellAt b (o+j))=some v)→gp m k b o xs)
 |[],us,xs,o,h,ar=>by
  simp only[sc,Option.some.injEq]at h;subst h
  simp only[bV]at ar;subst ar
  simp[gp]
 |d::ds,us,xs,o,h,ar=>by
  simp only[bV]at ar
  obtain⟨u,qm,rfl,h1,h2⟩:=ar
  cases d<;>simp only[sc,reduceCtorEq]at h
  split at h
  ·rename_i eH n af
   subst af
   cases a9:sc eH ds with
   |none=>rw[a9]at h;cases h
   |some aB=>
    rw[a9]at h
    simp only[Option.map_some,Option.some.injEq]at h;subst h
    simp only[bA]at h1;subst h1
    obtain⟨i1,i2,i3⟩:=Ok (o:=o+1) a9 h2 (m:=m) (b:=b)
    refine⟨fun v aC=> ?_,by simp[i2],fun hm=>⟨hm 0 _ (by simp[qe,Value.cells]),i3 fun j v aH=> ?_⟩⟩
    ·simp only[List.mem_cons]at aC
     rcases aC with rfl|aC
     ·rfl
     ·exact i1 v aC
    ·have:=hm (j+1) v (by simpa [qe,Value.cells]using aH)
     rw[show o+1+j=o+(j+1)by omega];exact this
  ·cases h
theorem Ol {rd m:Mem} {b:Nat} :∀{ds:List D} {us:List Value} {xs:List Nat} {o:Nat},sd ds=some xs→bV rd ds us→
 (∀u∈us,u.cells.size=1)∧xs.length=us.length∧((∀j v,(qe us)[j]? =some v→m (cellAt b (o+j))=some v)→gG m b o xs)
 |[],us,xs,o,h,ar=>by
  simp only[sd,Option.some.injEq]at h;subst h
  simp only[bV]at ar;subst ar
  simp[gG]
 |d::ds,us,xs,o,h,ar=>by
  simp only[bV]at ar
  obtain⟨u,qm,rfl,h1,h2⟩:=ar
  cases d<;>simp only[sd,reduceCtorEq]at h
  rename_i n
  cases a9:sd ds with
  |none=>rw[a9]at h;cases h
  |some aB=>
   rw[a9]at h
   simp only[Option.map_some,Option.some.injEq]at h;subst h
   simp only[bA]at h1
   obtain⟨y,rfl,hy⟩:=h1
   obtain⟨i1,i2,i3⟩:=Ol (o:=o+1) a9 h2 (m:=m) (b:=b)
   refine⟨fun v aC=> ?_,by simp[i2],fun hm=>⟨⟨y,hm 0 _ (by simp[qe,Value.cells]),hy⟩,i3 fun j v aH=> ?_⟩⟩
   ·simp only[List.mem_cons]at aC
    rcases aC with rfl|aC
    ·rfl
    ·exact i1 v aC
   ·have:=hm (j+1) v (by simpa [qe,Value.cells]using aH)
    rw[show o+1+j=o+(j+1)by omega];exact this
theorem fT.of {rd m:Mem} (hm:b7 rd m) {b:Nat} :∀{ds:List D} {vs:List Value} {o:Nat},bV rd ds vs→(∀j v,vs[j]? =some v→m (cellAt b (o+j))=some v)→fT m b o ds
 |[],_,_,_,_=>by simp only[fT]
 |d::ds,vs,o,h,au=>by
  simp only[bV]at h
  obtain⟨v,us,rfl,h1,h2⟩:=h
  simp only[fT]
  refine⟨⟨v,au 0 v rfl,h1.mono hm _ _⟩,fT.of hm h2 fun j u aH=> ?_⟩
  have:=au (j+1) u (by simpa using aH)
  rw[show o+1+j=o+(j+1)by omega];exact this
theorem Om {sz:Nat} {rd m:Mem} (hle:b7 rd m) {b:Nat} :∀{ds:List D} {us:List Value} {xs:List (List D)} {o:Nat},ka sz ds=some xs→bV rd ds us→
 (∀u∈us,u.cells.size=sz)∧xs.length=us.length∧((∀j v,(qe us)[j]? =some v→m (cellAt b (o+j))=some v)→gq m b sz o xs)
 |[],us,xs,o,h,ar=>by
  simp only[ka,Option.some.injEq]at h;subst h
  simp only[bV]at ar;subst ar
  simp[gq]
 |d::ds,us,xs,o,h,ar=>by
  simp only[bV]at ar
  obtain⟨u,qm,rfl,h1,h2⟩:=ar
  have key:∃r aB,xs=r::aB∧ka sz ds=some aB∧r.length=sz∧bV rd r u.cells.toList:=by
   have other:(∀cs,d≠ .agg cs)→∃r aB,xs=r::aB∧ka sz ds=some aB∧r.length=sz∧bV rd r u.cells.toList:=by
    intro aL
    have eU:(if sz=1 then (ka sz ds).map ([d]:: ·)else none)=some xs:=by
     cases d<;>simp only[ka]at h<;>first|exact h|exact absurd rfl (aL _)
    split at eU
    ·rename_i aG
     cases a9:ka sz ds with
     |none=>rw[a9]at eU;cases eU
     |some aB=>
      rw[a9]at eU
      simp only[Option.map_some,Option.some.injEq]at eU
      refine⟨[d],aB,eU.symm,rfl,aG.symm,?_⟩
      have:u.cells.toList=[u]:=by
       cases d<;>simp only[bA]at h1<;>first
        |exact absurd rfl (aL _)
        |(subst h1;rfl)
        |(obtain⟨_,rfl,_⟩:=h1;rfl)
        |(obtain⟨_,_,rfl,_⟩:=h1;rfl)
      rw[this]
      simp only[bV]
      exact⟨u,[],rfl,h1,rfl⟩
    ·cases eU
   cases aL:d with
   |agg cs=>
    subst aL
    simp only[ka]at h
    split at h
    ·rename_i aG
     cases a9:ka sz ds with
     |none=>rw[a9]at h;cases h
     |some aB=>
      rw[a9]at h
      simp only[Option.map_some,Option.some.injEq]at h
      simp only[bA]at h1
      obtain⟨vs,rfl,H⟩:=h1
      exact⟨cs,aB,h.symm,rfl,aG,H⟩
    ·cases h
   |_=>exact other (by intro cs;rw[aL];simp)
  obtain⟨r,aB,rfl,a9,aJ,zL⟩:=key
  have fG:u.cells.size=sz:=by have:=yN zL;simpa [aJ]using this
  obtain⟨i1,i2,i3⟩:=Om hle (o:=o+sz) a9 h2 (m:=m) (b:=b)
  refine⟨fun v aC=> ?_,by simp[i2],fun hm=> ?_⟩
  ·simp only[List.mem_cons]at aC
   rcases aC with rfl|aC
   ·exact fG
   ·exact i1 v aC
  ·simp only[gq]
   refine⟨aJ,fT.of hle zL fun j v aH=>hm j v ?_,i3 fun j v aH=> ?_⟩
   ·simp only[qe,List.flatMap_cons]
    rw[List.getElem?_append_left]
    ·exact aH
    ·rcases Nat.lt_or_ge j u.cells.toList.length with eU|eU
     ·exact eU
     ·rw[List.getElem?_eq_none eU]at aH;cases aH
   ·have:=hm (sz+j) v (by
     simp only[qe,List.flatMap_cons]
     rw[List.getElem?_append_right (by simp[fG])]
     simpa [fG,qe]using aH)
    rw[show o+sz+j=o+(sz+j)by omega];exact this
theorem Xp {ek:eG} {rd m:Mem} (hle:b7 rd m) {ds:List D} {d:D} {us:List Value} (h:asSlice ek ds=some d) (ar:bV rd ds us):
 (∀u∈us,u.cells.size=ek.sz)∧∀b,(∀j v,(qe us)[j]? =some v→m (cellAt b j)=some v)→bA m d (.slice (some (cellAt b 0)) us.length us.length):=by
 cases ek with
 |ints k=>
  simp only[asSlice]at h
  cases a9:sc k ds with
  |none=>rw[a9]at h;cases h
  |some xs=>
   rw[a9]at h
   simp only[Option.map_some,Option.some.injEq]at h;subst h
   obtain⟨h1,h2,_⟩:=Ok (m:=m) (b:=0) (o:=0) a9 ar
   refine⟨h1,fun b aw=> ?_⟩
   obtain⟨_,_,aq⟩:=Ok (m:=m) (b:=b) (o:=0) a9 ar
   simp only[bA]
   exact⟨_,_,by rw[h2],by omega,.inr ⟨b,0,rfl,aq fun j v aH=>by rw[Nat.zero_add];exact aw j v aH⟩⟩
 |flts=>
  simp only[asSlice]at h
  cases a9:sd ds with
  |none=>rw[a9]at h;cases h
  |some xs=>
   rw[a9]at h
   simp only[Option.map_some,Option.some.injEq]at h;subst h
   obtain⟨h1,h2,_⟩:=Ol (m:=m) (b:=0) (o:=0) a9 ar
   refine⟨h1,fun b aw=> ?_⟩
   obtain⟨_,_,aq⟩:=Ol (m:=m) (b:=b) (o:=0) a9 ar
   simp only[bA]
   exact⟨_,_,by rw[h2],by omega,.inr ⟨b,0,rfl,aq fun j v aH=>by rw[Nat.zero_add];exact aw j v aH⟩⟩
 |recs sz=>
  simp only[asSlice]at h
  cases a9:ka sz ds with
  |none=>rw[a9]at h;cases h
  |some xs=>
   rw[a9]at h
   simp only[Option.map_some,Option.some.injEq]at h;subst h
   obtain⟨h1,h2,_⟩:=Om hle (m:=m) (b:=0) (o:=0) a9 ar
   refine⟨h1,fun b aw=> ?_⟩
   obtain⟨_,_,aq⟩:=Om hle (m:=m) (b:=b) (o:=0) a9 ar
   simp only[bA]
   exact⟨_,_,by rw[h2],by omega,.inr ⟨b,0,rfl,aq fun j v aH=>by rw[Nat.zero_add];exact aw j v aH⟩⟩
mutual
theorem ajV:∀(v:ai),v.pure=true→∀j,v.has j=false
 | .d _,_,_=>by simp[ai.has]
 | .agg cs,h,j=>by simpa [ai.has]using CM cs (by simpa [ai.pure]using h) j
 | .box _ _,h,_=>by simp[ai.pure]at h
 | .own _ _ _,h,_=>by simp[ai.pure]at h
 | .ea _ _ _,h,_=>by simp[ai.pure]at h
 | .dr _ x y,h,j=>by
   simp only[ai.pure,Bool.and_eq_true]at h
   simp[ai.has,CM x h.1 j,CM y h.2 j]
 | .dF _,h,_=>by simp[ai.pure]at h
 | .dt,h,_=>by simp[ai.pure]at h
 | .any,h,_=>by simp[ai.pure]at h
theorem CM:∀(vs:List ai),ai.hl vs=true→∀j,ai.cY j vs=false
 |[],_,_=>by simp[ai.cY]
 |v::vs,h,j=>by
  simp only[ai.hl,Bool.and_eq_true]at h
  simp[ai.cY,ajV v h.1 j,CM vs h.2 j]
end
theorem aiA (w:World) (rd:Mem):b7 (plus w (fun _=>False) rd) rd:=fun a v h=>by rwa [wy (by simp)]at h
theorem CN (h:bl N aU aP R σ a w rd β) {vs:List ai} {us:List Value} {ds:List D} (a1:ai.hl vs=true) (aL:toDs σ vs=some ds) (ar:b6 rd β vs us):bV rd ds us:=
 (toDs_rep h (S:=fun _=>False) vs us ds aL ar fun i r aV hi=>by rw[CM vs a1 i]at hi;cases hi).mono (aiA w rd) _ _
theorem Xq:∀{parts:List (Nat×Operand)} {n k:Nat},CW n parts k=true→n=k+parts.length∧(parts.map fun(i,x)=>(i,a.eval x))=((parts.map fun x=>a.eval x.2).zipIdx k).map fun x=>(x.2,x.1)
 |[],n,k,h=>by simp only[CW,beq_iff_eq]at h;simp[h]
 |(j,x)::parts,n,k,h=>by
  simp only[CW,Bool.and_eq_true,beq_iff_eq]at h
  obtain⟨h1,h2⟩:=Xq h.2
  refine⟨by simp;omega,?_⟩
  simp only[List.map_cons,List.zipIdx_cons,h2,h.1]
theorem Gr {e:TypeId} {ek:eG} (h:ts P e=some ek):hT P e=some ek.sz∧0<ek.sz:=by
 unfold ts at h
 split at h<;>simp only[Option.some.injEq,reduceCtorEq]at h<;>subst h<;>refine⟨by assumption,by simp[eG.sz]⟩
theorem aiB (h:bl N aU aP R σ a w rd β) {t e:TypeId} {ek:eG} {len:Nat} {parts:Array (Nat×Operand)} (hu:P.underlying t=some (.slice e)) (lp:ts P e=some ek)
 (anY:CW len parts.toList 0=true) (fG:len*ek.sz≤16777216) (br:((P.info? e).bind (·.zero)).isSome=true) {ls:List bB}
 (SS:qM P (parts.toList.map fun _=>e) (parts.toList.map (·.2))=some ls) {K:ai→Prop} (af:bz Γ σ K (.hU ek ls)):
 Yields P N aU aP R σ a w β (Instr.buildSlice t len (parts.map fun(i,x)=>(i,a.eval x))) K:=by
 simp only[bz]at af
 obtain⟨a1,af⟩:=af
 split at af
 ·rename_i ds hE
  split at af
  ·rename_i d aL
   have ar:=uJ h SS
   have zM:=CN h a1 hE ar
   obtain⟨hlen,vn⟩:=Xq (a:=a) anY
   obtain⟨ya,HE⟩:=Gr lp
   cases hi:P.info? e with
   |none=>rw[hi]at br;cases br
   |some i=>
    rw[hi]at br
    cases aC:i.zero with
    |none=>simp[aC]at br
    |some z=>
     simp only[Nat.zero_add]at hlen
     have MA:(parts.toList.map (·.2)).map a.eval=parts.toList.map fun x=>a.eval x.2:=by rw[List.map_map];rfl
     rw[MA]at zM
     obtain⟨h1,_⟩:=Xp (b7.refl _) aL zM
     obtain⟨arr,aq,aE⟩:=Xo (parts.toList.map fun x=>a.eval x.2) 0 ((Array.range (len*ek.sz)).map (z.cells[· % z.cells.size]!)) h1 (by rw[Array.size_map,Array.size_range,List.length_map,←hlen,Nat.zero_add];exact Nat.le_refl _)
     have gK:arr.toList=qe (parts.toList.map fun x=>a.eval x.2):=by
      rw[aE,List.drop_of_length_le (by rw[Array.length_toList,Array.size_map,Array.size_range,List.length_map,←hlen,Nat.zero_add];exact Nat.le_refl _)]
      simp
     have aw:Below w.heap.size w (w.alloc (.cells arr e)):=(Below.refl _ _).alloc (Nat.le_refl _) _
     have jh:b7 rd (jR w (w.alloc (.cells arr e)) rd):=fun aV v aC=>by
      have:=yQ (h.c3 aV v aC)
      simp[jR,this,aC]
     refine⟨.d d,.slice (some (cellAt w.heap.size 0)) len len,w.alloc (.cells arr e),jR w (w.alloc (.cells arr e)) rd,af,?_,?_,?_⟩
     ·refine h.more aw jh (fun aV v aC=> ?_) (fun aV v aC bw=>by simpa [jR,bw]using aC)
      unfold jR at aC
      split at aC
      ·rename_i bw
       rw[World.cell?_alloc_lt _ _ _ bw];exact h.c3 _ _ aC
      ·exact aC
     ·simp only[aX]
      obtain⟨_,h2⟩:=Xp jh aL zM
      have:=h2 w.heap.size (fun j v aH=>by
       simp only[jR,cellAt,Nat.lt_irrefl,if_false]
       rw[World.cell?_alloc_new,←Array.getElem?_toList,gK]
       exact aH)
      simpa [hlen]using this
     ·simp only[Instr.buildSlice,Sem.run_bind,gn hu,Result.andThen_ok,pe ya]
      rw[if_neg (by have:(2:Nat)^24=16777216:=by decide
                    omega)]
      have afu:(parts.map fun(i,x)=>(i,a.eval x)).toList=((parts.toList.map fun x=>a.eval x.2).zipIdx 0).map fun x=>(x.2,x.1):=by
       rw[Array.toList_map];exact vn
      by_cases BT:len*ek.sz=0
      ·have MB:Instr.fill (fun i=>some (i*ek.sz,ek.sz)) ((Array.range (len*ek.sz)).map ((#[]:Array Value)[· % (#[]:Array Value).size]!)) (((parts.toList.map fun x=>a.eval x.2).zipIdx 0).map fun x=>(x.2,x.1))=some arr:=by
        have he:∀f:Nat→Value,(Array.range 0).map f= #[]:=fun f=>Array.eq_empty_of_size_eq_zero (by simp)
        rw[←aq,BT,he,he]
       simp only[Sem.run_pure,Result.andThen_ok,if_pos BT,Sem.run_bind,afu,MB,newRow,run_newObj]
       rfl
      ·simp only[if_neg BT,Sem.run_bind,GK hi aC,Sem.run_pure,Result.andThen_ok,afu,aq,newRow,run_newObj]
       rfl
  ·exact af.elim
 ·exact af.elim
end
end RV
namespace RV
open Go Go.RowKit
section
variable {N:Nat} {aU:eW} {aP:Mem} {R:bU} {σ σ':St} {a:Act} {w:World} {rd:Mem} {β β':bU} {P:Program} {Γ:Env}
def hx (P:Program) (N:Nat) (aU:eW) (aP:Mem) (R:bU) (σ:St) (a:Act) (w:World) (β:bU) (o:Oper) (K:ai→Prop):Prop:=
 ∃av u w' rd',K av∧bl N aU aP R σ a w' rd' β∧aX rd' β av u∧(execOp a.eval o).run P w= .ok (.value u) w'
theorem Yields.done {s:Sem Value} {K:ai→Prop} {o:Oper} (hy:Yields P N aU aP R σ a w β s K)
 (he:(execOp a.eval o).run P w=(s.run P w).andThen fun u w=> .ok (.value u) w):hx P N aU aP R σ a w β o K:=by
 obtain⟨av,u,w',rd',h1,h2,aq,aE⟩:=hy
 exact⟨av,u,w',rd',h1,h2,aq,by rw[he,aE];rfl⟩
theorem pZ {K:ai→Prop} {o:Oper} (h:bl N aU aP R σ a w rd β) {av:ai} {u:Value} (af:K av) (ar:aX rd β av u) (he:(execOp a.eval o).run P w= .ok (.value u) w):hx P N aU aP R σ a w β o K:=
 ⟨av,u,w,rd,af,h,ar,he⟩
theorem Z7 (h:bl N aU aP R σ a w rd β) {o:Oper} {x:Operand} {t:TypeId} {v:bB} (bu:o.op= .move x∨o.op= .assign x) (aj:qP P t x=some v) {K:ai→Prop} (af:K (σ.a3 v)):hx P N aU aP R σ a w β o K:=
 pZ h af (yR h aj) (by rcases bu with e|e<;>simp[execOp,e])
theorem map_some {α iF:Type} {x:Option α} {f:α→iF} {y:iF} (h:x.map f=some y):∃v,x=some v∧f v=y:=by
 cases x with
 |none=>cases h
 |some v=>exact⟨v,rfl,by simpa using h⟩
theorem aa7 (h:bl N aU aP R σ a w rd β) {x:Option Operand} {l:Option bB} (aj:PH P x=some l):Hb rd β (l.map σ.a3) (x.map a.eval):=by
 cases x with
 |none=>
  have:none=l:=Option.some.inj aj
  subst this;exact trivial
 |some x=>
  obtain⟨v,aG,rfl⟩:=map_some (show (eh P x).map some=some l from aj)
  exact e4 h aG
theorem run_equalIn_bool (d:Nat) {t:TypeId} (hu:P.underlying t=some .bool) (n m:Bool) (w:World):(Op.equalIn (d+1) t (.bool n) (.bool m)).run P w= .ok (n==m) w:=by
 simp only[Op.equalIn,Sem.run_bind,gn hu,Result.andThen_ok,Sem.run_pure]
theorem run_equal_bool {t:TypeId} (hu:P.underlying t=some .bool) (n m:Bool) (w:World):(Op.equal t (.bool n) (.bool m)).run P w= .ok (n==m) w:=
 run_equalIn_bool 9999 hu n m w
theorem X3 {t:TypeId} (h:zj P t=true):P.underlying t=some (.int .i64):=by
 unfold zj at h
 split at h
 ·assumption
 ·cases h
theorem Xc {t:TypeId} (h:zj P t=true) {cs:Array Value} {off:Nat} {v:Value} (aC:cs[off]? =some v) (w:World):(part t cs off).run P w= .ok v w:=by
 simp[part,isAgg,gn (X3 h),aC]
theorem run_equalIn_int (d:Nat) {t:TypeId} (h:zj P t=true) (n m:Int) (w:World):(Op.equalIn (d+1) t (.int .i64 n) (.int .i64 m)).run P w= .ok (n==m) w:=by
 simp only[Op.equalIn,Sem.run_bind,gn (X3 h),Result.andThen_ok,Sem.run_pure,if_true]
theorem XL {t:TypeId} (h:Dd P t=true):∃f g:Field,P.underlying t=some (.struct #[f,g])∧f.name≠"_"∧g.name≠"_"∧f.offset=0∧g.offset=1∧zj P f.type=true∧zj P g.type=true∧P.stoodInHeld t=false∧P.eqGuardType P.depth t=false:=by
 unfold Dd at h
 split at h
 ·rename_i fs hu
  split at h
  ·rename_i f g aJ
   simp only[Bool.and_eq_true,bne_iff_ne,beq_iff_eq,Bool.not_eq_true']at h
   obtain⟨⟨⟨⟨⟨⟨⟨h1,h2⟩,aq⟩,aE⟩,aF⟩,aN⟩,aM⟩,aY⟩:=h
   refine⟨f,g,?_,h1,h2,aq,aE,aF,aN,aM,aY⟩
   rw[hu]
   congr 2
   exact Array.toList_inj.1 aJ
  ·cases h
 ·cases h
theorem ahR {t:TypeId} (h:Dd P t=true) (a b c d:Int) (w:World):(Op.equal t (.agg #[.int .i64 a,.int .i64 b]) (.agg #[.int .i64 c,.int .i64 d])).run P w= .ok (a==c && b==d) w:=by
 obtain⟨f,g,hu,iR,pT,v3,df,i1,i2,aG,_⟩:=XL h
 have p1:∀x y:Int,∀w,(part f.type #[Value.int .i64 x,.int .i64 y] f.offset).run P w= .ok (.int .i64 x) w:=fun x y w=>Xc i1 (by rw[v3];rfl) w
 have cU:∀x y:Int,∀w,(part g.type #[Value.int .i64 x,.int .i64 y] g.offset).run P w= .ok (.int .i64 y) w:=fun x y w=>Xc i2 (by rw[df];rfl) w
 unfold Op.equal
 rw[show Op.maxDepth=9998+1+1 from rfl]
 rw[Op.equalIn]
 simp only[Sem.run_bind,gn hu,Result.andThen_ok]
 cases h1:(a==c)<;>cases h2:(b==d)<;>simp[aG,iR,pT,p1,cU,run_equalIn_int 9998 i1,run_equalIn_int 9998 i2,h1,h2]
theorem YE {rd:Mem} {β:bU} {v:ai} {u:Value} {p:Int×Int} (h:v.pair=some p) (ar:aX rd β v u):u= .agg #[.int .i64 p.1,.int .i64 p.2]:=by
 unfold ai.pair at h
 split at h
 ·simp only[Option.some.injEq]at h;subst h
  simp only[aX,bA,bV]at ar
  obtain⟨vs,rfl,v1,bs,a4,rfl,v2,bq,bc,rfl,rfl⟩:=ar
  rw[bc]at a4
  congr 1
  exact Array.toList_inj.1 a4
 ·simp only[Option.some.injEq]at h;subst h
  simp only[aX,b6,bA]at ar
  obtain⟨vs,rfl,v1,bs,a4,rfl,v2,bq,bc,rfl,rfl⟩:=ar
  rw[bc]at a4
  congr 1
  exact Array.toList_inj.1 a4
 ·cases h
def bJ.p6:bJ→Bool
 | .call .. | .hS .. =>true
 |_=>false
theorem aid (h:bl N aU aP R σ a w rd β) {o:Oper} {x:Operand} (bQ:o.op= .assign x) {l:bJ} (ah:uP P o.type x=some l) {K:ai→Prop} (af:bz Γ σ K l):hx P N aU aP R σ a w β o K:=by
 unfold uP at ah
 split at ah
 ·obtain⟨ek,_,rfl⟩:=map_some ah
  simp only[bz]at af
 ·obtain⟨v,aj,rfl⟩:=map_some ah
  exact Z7 h (.inr bQ) aj af
theorem ajg (h:bl N aU aP R σ a w rd β) {o:Oper} {c x y:Operand} (bQ:o.op= .pick c x y) {l:bJ} (ah:u6 P o.type c x y=some l) {K:ai→Prop} (af:bz Γ σ K l):hx P N aU aP R σ a w β o K:=by
 unfold u6 at ah
 split at ah
 ·rename_i c' dN e7 h1 h2 aq
  simp only[Option.some.injEq]at ah;subst ah
  simp only[bz]at af
  have au:=e4 h h1
  split at af
  ·rename_i t vD
   rw[vD]at au
   simp only[aX,bA]at au
   cases t with
   |true=>exact pZ h (af.1 rfl) (yR h h2) (by simp[execOp,bQ,au,asBool])
   |false=>exact pZ h (af.2 rfl) (yR h aq) (by simp[execOp,bQ,au,asBool])
  ·exact af.elim
 ·cases ah
theorem ajh (h:bl N aU aP R σ a w rd β) {o:Oper} {t:TypeId} {x:Operand} (bQ:o.op= .load t x) {l:bJ} (ah:u7 P t x=some l) {K:ai→Prop} (af:bz Γ σ K l):hx P N aU aP R σ a w β o K:=by
 unfold u7 at ah
 split at ah
 ·rename_i dN n g h1 h2
  simp only[Option.some.injEq]at ah;subst ah
  simp only[bz]at af
  exact(ah6 h2 h (e4 h h1) af).done (by simp[execOp,bQ])
 ·cases ah
theorem aiC (h:bl N aU aP R σ a w rd β) {o:Oper} {x:Operand} (bQ:o.op= .nilCheck x) {v:bB} (aj:eh P x=some v) {K:ai→Prop} (af:bz Γ σ K (.xV v)):hx P N aU aP R σ a w β o K:=by
 have ar:=e4 h aj
 simp only[bz]at af
 split at af
 ·rename_i i off vD
  rw[vD]at ar
  have eC:=ar
  simp only[aX]at ar
  obtain⟨r,_,hu⟩:=ar
  exact pZ h af eC (by simp[execOp,bQ,hu])
 ·rename_i i j off vD
  rw[vD]at ar
  have eC:=ar
  simp only[aX]at ar
  obtain⟨r,_,hu⟩:=ar
  exact pZ h af eC (by simp[execOp,bQ,hu])
 ·rename_i cs vD
  rw[vD]at ar
  have eC:=ar
  simp only[aX,bA]at ar
  obtain⟨b,o',hu,_⟩:=ar
  exact pZ h af eC (by simp[execOp,bQ,hu])
 ·rename_i f aq5 aq6 vD
  rw[vD]at ar
  have eC:=ar
  simp only[aX,bA]at ar
  obtain⟨gi,vc,hu,_⟩:=ar
  exact pZ h af eC (by simp[execOp,bQ,hu])
 ·rename_i f aq5 aq6 vD
  rw[vD]at ar
  have eC:=ar
  simp only[aX]at ar
  obtain⟨gi,vc,hu,_⟩:=ar
  exact pZ h af eC (by simp[execOp,bQ,hu])
 ·exact af.elim
theorem ajW (h:bl N aU aP R σ a w rd β) {o:Oper} {op:BinOp} {t v5:TypeId} {x y:Operand} (bQ:o.op= .binOp op t x y v5) {l:bJ} (ah:vl P op t x y=some l) {K:ai→Prop} (af:bz Γ σ K l):hx P N aU aP R σ a w β o K:=by
 unfold vl at ah
 split at ah
 ·rename_i dN e7 h1 h2
  have c6:=e4 h h1
  have gL:=e4 h h2
  have LK:bz Γ σ K (.bin op dN e7)→hx P N aU aP R σ a w β o K:=by
   intro af
   simp only[bz]at af
   split at af
   ·rename_i k n eH m a4 bc
    rw[a4]at c6;rw[bc]at gL
    simp only[aX,bA]at c6 gL
    refine(aib (op:=op) (t:=t) h af.1 af.2).done ?_
    simp only[execOp,bQ,c6,gL]
    cases op<;>simp[eqGuard]
   ·rename_i n m a4 bc
    rw[a4]at c6;rw[bc]at gL
    simp only[aX,bA]at c6 gL
    obtain⟨yz,aQ,zN⟩:=c6
    obtain⟨ft,hm,vE⟩:=gL
    refine(aic (op:=op) (t:=t) h zN vE af).done ?_
    simp only[execOp,bQ,aQ,hm]
    cases op<;>simp[eqGuard]
   ·exact af.elim
  have acC:∀{ne:Bool},Dd P t=true→op=(if ne then .neq else .eql)→bz Γ σ K (.w1 ne dN e7)→hx P N aU aP R σ a w β o K:=by
   intro ne a1 HF af
   simp only[bz]at af
   split at af
   ·rename_i p q a4 bc
    have c6:=YE a4 c6
    have gL:=YE bc gL
    obtain⟨_,_,_,_,_,_,_,_,_,_,bh⟩:=XL a1
    refine pZ h af (u:= .bool (if ne then !(p.1==q.1 && p.2==q.2)else (p.1==q.1 && p.2==q.2))) (by simp only[aX,bA]) ?_
    cases ne<;>simp at HF<;>subst HF<;>
     simp[execOp,bQ,c6,gL,eqGuard,binOp,ahR a1,bh]
   ·exact af.elim
  have acD:∀{ne:Bool},P.underlying t=some .bool→op=(if ne then .neq else .eql)→bz Γ σ K (.qW ne dN e7)→hx P N aU aP R σ a w β o K:=by
   intro ne hu HF af
   simp only[bz]at af
   split at af
   ·rename_i n m a4 bc
    rw[a4]at c6;rw[bc]at gL
    simp only[aX,bA]at c6 gL
    refine pZ h af (u:= .bool (if ne then n !=m else n==m)) (by simp only[aX,bA]) ?_
    cases ne<;>simp at HF<;>subst HF<;>
     simp[execOp,bQ,c6,gL,eqGuard,binOp,run_equal_bool hu,bne]
   ·exact af.elim
  split at ah
  ·rename_i hu
   simp only[Option.some.injEq]at ah;subst ah
   exact acD hu rfl af
  ·rename_i hu
   simp only[Option.some.injEq]at ah;subst ah
   exact acD hu rfl af
  ·simp only[Option.some.injEq]at ah;subst ah
   exact LK af
  ·simp only[Option.some.injEq]at ah;subst ah
   exact LK af
  ·split at ah
   ·rename_i a1
    simp only[Option.some.injEq]at ah;subst ah
    exact acC a1 rfl af
   ·cases ah
  ·split at ah
   ·rename_i a1
    simp only[Option.some.injEq]at ah;subst ah
    exact acC a1 rfl af
   ·cases ah
  ·cases ah
 ·split at ah
  ·simp only[Option.some.injEq]at ah;subst ah
   simp only[bz]at af
  ·cases ah
 ·cases ah
theorem akD (h:bl N aU aP R σ a w rd β) {o:Oper} {op:UnOp} {t:TypeId} {x:Operand} (bQ:o.op= .unOp op t x) {v:bB} (aj:eh P x=some v) {K:ai→Prop} (af:bz Γ σ K (.un op v)):hx P N aU aP R σ a w β o K:=by
 have ar:=e4 h aj
 simp only[bz]at af
 split at af
 ·rename_i b e
  rw[e]at ar
  simp only[aX,bA]at ar
  exact(Yields.bool (s:=Op.unary .not (a.eval x)) h af (by simp[ar,Op.unary])).done (by simp[execOp,bQ])
 ·rename_i k n e
  rw[e]at ar
  simp only[aX,bA]at ar
  exact(AF (s:=Op.unary .neg (a.eval x)) h af (by simp[ar,Op.unary,Op.intArith])).done (by simp[execOp,bQ])
 ·rename_i b e
  rw[e]at ar
  simp only[aX,bA]at ar
  obtain⟨y,hu,hy⟩:=ar
  refine pZ h af (u:= .float .f64 (Op.negFloat .f64 y)) (by simp only[aX,bA];exact⟨_,rfl,by rw[ajf,hy]⟩) (by simp[execOp,bQ,hu,Op.unary])
 ·exact af.elim
theorem aji (h:bl N aU aP R σ a w rd β) {o:Oper} {s t:TypeId} {x:Operand} (bQ:o.op= .convert s t x) {l:bJ} (ah:u9 P s t x=some l) {K:ai→Prop} (af:bz Γ σ K l):hx P N aU aP R σ a w β o K:=by
 have ec:∀{dN},(∃d,P.underlying s=some d)→P.underlying t=some (.float .f64)→eh P x=some dN→bz Γ σ K (.wJ dN)→hx P N aU aP R σ a w β o K:=by
  rintro dN ⟨d,aG⟩ zO aj af
  have ar:=e4 h aj
  simp only[bz]at af
  split at af
  ·rename_i eH n e
   rw[e]at ar
   simp only[aX,bA]at ar
   exact pZ h af (u:= .float .f64 (FloatKind.f64.nearest n)) (by simp only[aX,bA];exact⟨_,rfl,rfl⟩) (by simp[execOp,bQ,ar,convert,gn aG,gn zO,Conv.intToFloat])
  ·rename_i b e
   rw[e]at ar
   simp only[aX,bA]at ar
   obtain⟨y,hu,hy⟩:=ar
   exact pZ h af (u:= .float .f64 y) (by simp only[aX,bA];exact⟨_,rfl,hy⟩) (by simp[execOp,bQ,hu,convert,gn aG,gn zO,Conv.floatToFloat])
  ·exact af.elim
 unfold u9 at ah
 split at ah
 ·rename_i dN aq7 k aj aG zO
  simp only[Option.some.injEq]at ah;subst ah
  have ar:=e4 h aj
  simp only[bz]at af
  split at af
  ·rename_i eH n e
   rw[e]at ar
   simp only[aX,bA]at ar
   exact(AF (s:=convert s t (a.eval x)) h af (by simp[ar,convert,gn aG,gn zO,Conv.intToInt])).done (by simp[execOp,bQ])
  ·exact af.elim
 ·rename_i dN aq7 aj aG zO
  simp only[Option.some.injEq]at ah;subst ah
  exact ec ⟨_,aG⟩ zO aj af
 ·rename_i dN aj aG zO
  simp only[Option.some.injEq]at ah;subst ah
  exact ec ⟨_,aG⟩ zO aj af
 ·cases ah
end
end RV
namespace RV
open Go Go.RowKit
section
variable {N:Nat} {aU:eW} {aP:Mem} {R:bU} {σ σ':St} {a:Act} {w:World} {rd:Mem} {β β':bU} {P:Program} {Γ:Env}
theorem aiD (h:bl N aU aP R σ a w rd β) {o:Oper} {s:TypeId} {x:Operand} {f:Nat} (bQ:o.op= .fieldAddr s x f) {l:bJ} (ah:uW P s x f=some l) {K:ai→Prop} (af:bz Γ σ K l):hx P N aU aP R σ a w β o K:=by
 unfold uW at ah
 split at ah
 ·rename_i fs dN hu aj
  split at ah
  ·rename_i fd hf
   split at ah
   ·rename_i n aQ
    simp only[Option.some.injEq]at ah;subst ah
    have ar:=e4 h aj
    have run:∀b o',a.eval x= .pointer (some (cellAt b o'))→(Instr.fieldAt s (a.eval x) f).run P w= .ok (.pointer (some (cellAt b (o'+fd.offset)))) w:=by
     intro b o' e
     simp[Instr.fieldAt,gn hu,hf,e,Instr.sureAddr,fieldPlace,pe aQ,wv]
    simp only[bz]at af
    split at af
    ·rename_i i off e
     rw[e]at ar
     simp only[aX]at ar
     obtain⟨r,pF,qo⟩:=ar
     exact(Yields.here h af (by simp only[aX];exact⟨r,pF,by rw[Nat.add_assoc]⟩) (run _ _ qo)).done (by simp[execOp,bQ])
    ·rename_i i j off e
     rw[e]at ar
     simp only[aX]at ar
     obtain⟨r,pF,qo⟩:=ar
     exact(Yields.here h af (by simp only[aX];exact⟨r,pF,by rw[Nat.add_assoc]⟩) (run _ _ qo)).done (by simp[execOp,bQ])
    ·rename_i cs e
     rw[e]at ar
     simp only[aX,bA]at ar
     obtain⟨b,o',pF,qo⟩:=ar
     exact(Yields.here h af (by simp only[aX,bA];exact⟨b,_,rfl,qo.drop _⟩) (run _ _ pF)).done (by simp[execOp,bQ])
    ·exact af.elim
   ·cases ah
  ·cases ah
 ·cases ah
theorem YF {t:TypeId} {n:Nat} {g:Bool} (ah:sv P t=some (n,g)) {cs:List ai} {vs:Array Value} (aC:b6 rd β cs vs.toList) {off:Nat} {K:ai→Prop}
 (af:if g=true then off+n≤cs.length∧K (.agg ((cs.drop off).take n))else match cs[off]? with|some v=>K v|none=>False):
 ∃av u,K av∧aX rd β av u∧∀w,(part t vs off).run P w= .ok u w:=by
 cases g with
 |true=>
  simp only[if_true]at af
  refine⟨_,.agg (vs.extract off (off+n)),af.2,?_,fun w=>by simp[part,Kw ah,pe (O2 ah)]⟩
  simp only[aX]
  refine⟨_,rfl,?_⟩
  have:=Ov n (Ow off aC)
  rw[Array.toList_extract,List.extract_eq_take_drop]
  rwa [show off+n - off=n by omega]
 |false=>
  simp only[Bool.false_eq_true,if_false]at af
  split at af
  ·rename_i c au
   obtain⟨u,h1,h2⟩:=OL aC au
   refine⟨c,u,af,h2,fun w=> ?_⟩
   have:vs[off]? =some u:=by simpa using h1
   simp[part,Kw ah,this]
  ·exact af.elim
theorem aiE (h:bl N aU aP R σ a w rd β) {o:Oper} {s:TypeId} {x:Operand} {f:Nat} (bQ:o.op= .field s x f) {l:bJ} (ah:uX P s x f=some l) {K:ai→Prop} (af:bz Γ σ K l):hx P N aU aP R σ a w β o K:=by
 unfold uX at ah
 split at ah
 ·rename_i fs dN hu aj
  split at ah
  ·rename_i fd hf
   split at ah
   ·rename_i n g aQ
    simp only[Option.some.injEq]at ah;subst ah
    have ar:=e4 h aj
    simp only[bz]at af
    split at af
    ·rename_i cs e
     rw[e]at ar
     simp only[aX]at ar
     obtain⟨vs,kF,H⟩:=ar
     obtain⟨av,u,h1,h2,aq⟩:=YF aQ H af
     exact(Yields.here h (s:=Instr.field s (a.eval x) f) h1 h2 (by simp[Instr.field,gn hu,hf,kF,asAgg,aq])).done (by simp[execOp,bQ])
    ·exact af.elim
   ·cases ah
  ·cases ah
 ·cases ah
theorem ajX (h:bl N aU aP R σ a w rd β) {o:Oper} {t:TypeId} {x i:Operand} (bQ:o.op= .index t x i) {l:bJ} (ah:uZ P t x i=some l) {K:ai→Prop} (af:bz Γ σ K l):hx P N aU aP R σ a w β o K:=by
 unfold uZ at ah
 split at ah
 ·rename_i len e dN pU hu aj hi
  split at ah
  ·rename_i n g aQ
   simp only[Option.some.injEq]at ah;subst ah
   have c6:=e4 h aj
   have rr:=e4 h hi
   simp only[bz]at af
   split at af
   ·rename_i cs k j a4 bc
    rw[a4]at c6;rw[bc]at rr
    simp only[aX,bA]at c6 rr
    obtain⟨vs,kF,H⟩:=c6
    obtain⟨h0,h1,af⟩:=af
    obtain⟨av,u,bE,bM,bn⟩:=YF aQ H af
    exact(Yields.here h (s:=Instr.index t (a.eval x) (a.eval i)) bE bM (by simp[Instr.index,rr,asIntOf,gn hu,kF,h0,h1,pe (O2 aQ),bn])).done (by simp[execOp,bQ])
   ·exact af.elim
  ·cases ah
 ·cases ah
theorem aiF (h:bl N aU aP R σ a w rd β) {o:Oper} {t:TypeId} {x i:Operand} (bQ:o.op= .indexAddr t x i) {l:bJ} (ah:uY P t x i=some l) {K:ai→Prop} (af:bz Γ σ K l):hx P N aU aP R σ a w β o K:=by
 unfold uY at ah
 split at ah
 ·rename_i e dN pU hu aj hi
  obtain⟨n,aQ,rfl⟩:=map_some ah
  have c6:=e4 h aj
  have rr:=e4 h hi
  simp only[bz]at af
  split at af
  ·rename_i k j bc
   rw[bc]at rr
   simp only[aX,bA]at rr
   exact(ahV (k:=k) hu aQ h c6 af).done (by simp[execOp,bQ,rr])
  ·exact af.elim
 ·rename_i len e dN pU hu aj hi
  obtain⟨n,aQ,rfl⟩:=map_some ah
  have c6:=e4 h aj
  have rr:=e4 h hi
  simp only[bz]at af
  have run:∀b o' k j,a.eval x= .pointer (some (cellAt b o'))→a.eval i= .int k j→0≤j→j<len→(Instr.indexAt t (a.eval x) (a.eval i)).run P w= .ok (.pointer (some (cellAt b (o'+j.toNat*n)))) w:=by
   intro b o' k j a4 bc h0 h1
   simp[Instr.indexAt,a4,bc,asIntOf,gn hu,Instr.sureAddr,h0,h1,pe aQ,wv]
  split at af
  ·rename_i b off k j a4 bc
   rw[a4]at c6;rw[bc]at rr
   simp only[aX,bA]at c6 rr
   obtain⟨r,pF,qo⟩:=c6
   obtain⟨h0,h1,af⟩:=af
   exact(Yields.here h af (by simp only[aX];exact⟨r,pF,by rw[Nat.add_assoc]⟩) (run _ _ _ _ qo rr h0 h1)).done (by simp[execOp,bQ])
  ·rename_i cs k j a4 bc
   rw[a4]at c6;rw[bc]at rr
   simp only[aX,bA]at c6 rr
   obtain⟨b,o',pF,qo⟩:=c6
   obtain⟨h0,h1,af⟩:=af
   exact(Yields.here h af (by simp only[aX,bA];exact⟨b,_,rfl,qo.drop _⟩) (run _ _ _ _ pF rr h0 h1)).done (by simp[execOp,bQ])
  ·exact af.elim
 ·cases ah
theorem Pn {m:Mem} :∀{ds:List D} {vs:List Value} {k:Nat} {d:D},bV m ds vs→ds[k]? =some d→∃v,vs[k]? =some v∧bA m d v
 |c::cs,vs,0,c',h,au=>by
  simp only[bV]at h
  obtain⟨v,w5,rfl,h1,h2⟩:=h
  simp at au;subst au
  exact⟨v,rfl,h1⟩
 |c::cs,vs,k+1,c',h,au=>by
  simp only[bV]at h
  obtain⟨v,w5,rfl,h1,h2⟩:=h
  have cT:cs[k]? =some c':=by simpa using au
  obtain⟨x,aq,aE⟩:=Pn h2 cT
  exact⟨x,by simpa using aq,aE⟩
theorem ajj (h:bl N aU aP R σ a w rd β) {o:Oper} {x:Operand} {i:Nat} (bQ:o.op= .extract x i) {v:bB} (aj:eh P x=some v) {K:ai→Prop} (af:bz Γ σ K (.sr i v)):hx P N aU aP R σ a w β o K:=by
 have ar:=e4 h aj
 simp only[bz]at af
 split at af
 ·rename_i ds e
  rw[e]at ar
  simp only[aX,bA]at ar
  obtain⟨vs,hu,H⟩:=ar
  split at af
  ·rename_i d aL
   obtain⟨u,h1,h2⟩:=Pn H aL
   have SU:vs[i]? =some u:=by simpa using h1
   exact(Yields.here h (s:=Instr.extract (a.eval x) i) af (tq h2) (by simp[Instr.extract,hu,SU])).done (by simp[execOp,bQ])
  ·exact af.elim
 ·exact af.elim
theorem W3 {t:TypeId} (h:GI P t=true):∃e,P.underlying t=some (.slice e):=by
 unfold GI at h
 split at h
 ·rename_i e he;exact⟨e,he⟩
 ·cases h
theorem ahX (h:bl N aU aP R σ a w rd β) {o:Oper} {b:Builtin} {args:Array Operand} {dv:Array TypeId} (bQ:o.op= .call { callee:= .builtin b,args,argTypes:=dv }) {l:bJ}
 (ah:uL P b args.toList dv.toList=some l) {K:ai→Prop} (af:bz Γ σ K l):hx P N aU aP R σ a w β o K:=by
 unfold uL at ah
 split at ah
 ·rename_i x t a9 Ij
  split at ah
  ·rename_i aG
   obtain⟨e,hu⟩:=W3 aG
   obtain⟨v,aj,rfl⟩:=map_some ah
   have ar:=e4 h aj
   have tY:args= #[x]:=by rw[←Array.toList_inj];exact a9
   have HG:dv= #[t]:=by rw[←Array.toList_inj];exact Ij
   subst tY HG
   have run:∀A n cap,a.eval x= .slice A n cap→(Builtin.len_ #[t] o.type #[a.eval x]).run P w= .ok (.int .i64 n) w:=by
    intro A n cap e
    simp[Builtin.len_,gn hu,e,goInt]
   have fin:∀{n:Nat},K (.d (.int .i64 n))→(∃A cap,a.eval x= .slice A n cap)→hx P N aU aP R σ a w β o K:=by
    rintro n af ⟨A,cap,e⟩
    refine(Yields.int (s:=Builtin.len_ #[t] o.type #[a.eval x]) h af (run _ _ _ e)).done ?_
    simp[execOp,bQ,resolve,invoke,builtin]
   simp only[bz,Dp]at af
   generalize σ.a3 v=y at ar af
   split at af<;>first
    |(simp only[aX,bA]at ar;obtain⟨A,cap,h1,_⟩:=ar;exact fin af ⟨A,cap,h1⟩)
    |exact af.elim
  ·cases ah
 ·rename_i x y a9
  split at ah
  ·rename_i dN e7 aj hy
   simp only[Option.some.injEq]at ah;subst ah
   have c6:=e4 h aj
   have gL:=e4 h hy
   have tY:args= #[x,y]:=by rw[←Array.toList_inj];exact a9
   subst tY
   simp only[bz]at af
   split at af
   ·rename_i k n eH m a4 bc
    rw[a4]at c6;rw[bc]at gL
    simp only[aX,bA]at c6 gL
    refine(Yields.int (s:=Builtin.max_ dv o.type #[a.eval x,a.eval y]) h af ?_).done ?_
    ·simp[Builtin.max_,c6,gL,Builtin.max2]
    ·simp[execOp,bQ,resolve,invoke,builtin]
   ·exact af.elim
  ·cases ah
 ·rename_i x y a9
  split at ah
  ·rename_i dN e7 aj hy
   simp only[Option.some.injEq]at ah;subst ah
   have c6:=e4 h aj
   have gL:=e4 h hy
   have tY:args= #[x,y]:=by rw[←Array.toList_inj];exact a9
   subst tY
   simp only[bz]at af
   split at af
   ·rename_i k n eH m a4 bc
    rw[a4]at c6;rw[bc]at gL
    simp only[aX,bA]at c6 gL
    refine(Yields.int (s:=Builtin.min_ dv o.type #[a.eval x,a.eval y]) h af ?_).done ?_
    ·simp[Builtin.min_,c6,gL,Builtin.min2]
    ·simp[execOp,bQ,resolve,invoke,builtin]
   ·exact af.elim
  ·cases ah
 ·split at ah
  ·split at ah
   ·simp only[Option.some.injEq]at ah;subst ah;simp only[bz]at af
   ·cases ah
  ·cases ah
 ·split at ah
  ·split at ah
   ·simp only[Option.some.injEq]at ah;subst ah;simp only[bz]at af
   ·cases ah
  ·cases ah
 ·cases ah
theorem aiG (h:bl N aU aP R σ a w rd β) {o:Oper} {t:TypeId} {x:Operand} {lo hi pS:Option Operand} (bQ:o.op= .slice t x lo hi pS) {l:bJ} (ah:u0 P t x lo hi pS=some l) {K:ai→Prop} (af:bz Γ σ K l):hx P N aU aP R σ a w β o K:=by
 unfold u0 at ah
 split at ah
 ·rename_i e dN hu aj
  split at ah
  ·rename_i n lo' hi' aQ ln sO
   simp only[Option.some.injEq]at ah;subst ah
   simp only[bz]at af
   exact(aiz hu aQ h (e4 h aj) (aa7 h ln) (aa7 h sO) af).done (by simp[execOp,bQ])
  ·cases ah
 ·cases ah
theorem aie (h:bl N aU aP R σ a w rd β) {o:Oper} {t:TypeId} {len:Nat} {parts:Array (Nat×Operand)} (bQ:o.op= .buildSlice t len parts) {l:bJ} (ah:vm P t len parts=some l) {K:ai→Prop} (af:bz Γ σ K l):hx P N aU aP R σ a w β o K:=by
 unfold vm at ah
 split at ah
 ·rename_i e hu
  split at ah
  ·rename_i ek lp
   split at ah
   ·rename_i br
    split at ah
    ·split at ah
     ·simp only[Option.some.injEq]at ah;subst ah;simp only[bz]at af
     ·cases ah
    ·split at ah
     ·rename_i au
      simp only[Bool.and_eq_true,decide_eq_true_eq]at au
      obtain⟨ls,SS,rfl⟩:=map_some ah
      exact(aiB h hu lp au.1 au.2 br SS af).done (by simp[execOp,bQ])
     ·cases ah
   ·cases ah
  ·cases ah
 ·cases ah
theorem ajk (h:bl N aU aP R σ a w rd β) {o:Oper} {f:Nat} {fst cap:Array Operand} (bQ:o.op= .makeFunc (.func f) fst cap) {l:bJ} (ah:va P f fst cap=some l) {K:ai→Prop} (af:bz Γ σ K l):hx P N aU aP R σ a w β o K:=by
 unfold va at ah
 split at ah
 ·rename_i x y aj hy
  simp only[Option.some.injEq]at ah;subst ah
  have pF:=uJ h aj
  have qo:=uJ h hy
  have he:(execOp a.eval o).run P w= .ok (.value (.func (.func f) (fst.map a.eval) (cap.map a.eval))) w:=by simp[execOp,bQ,Instr.makeFunc]
  simp only[bz]at af
  split at af
  ·rename_i a1
   simp only[Bool.and_eq_true]at a1
   split at af
   ·rename_i d1 d2 h1 h2
    have bX:=CN h a1.1 h1 pF
    have ch:=CN h a1.2 h2 qo
    exact pZ h af (by simp only[aX,bA];exact⟨_,_,rfl,by simpa using bX,by simpa using ch⟩) he
   ·exact af.elim
  ·exact pZ h af (by simp only[aX];exact⟨_,_,rfl,by simpa using pF,by simpa using qo⟩) he
 ·cases ah
theorem ajl (h:bl N aU aP R σ a w rd β) {o:Oper} {l:bJ} (ah:dV P o.type o.op=some l) (au:l.p6=false) {K:ai→Prop} (af:bz Γ σ K l):hx P N aU aP R σ a w β o K:=by
 cases bQ:o.op with
 |assign x=>rw[bQ]at ah;exact aid h bQ ah af
 |move x=>rw[bQ]at ah;obtain⟨v,aj,rfl⟩:=map_some ah;exact Z7 h (.inl bQ) aj af
 |pick c x y=>rw[bQ]at ah;exact ajg h bQ ah af
 |alloc e=>rw[bQ]at ah;obtain⟨z,_,rfl⟩:=map_some ah;simp only[bz]at af
 |box e x=>rw[bQ]at ah;obtain⟨z,_,rfl⟩:=map_some ah;simp only[bz]at af
 |load t x=>rw[bQ]at ah;exact ajh h bQ ah af
 |store t x y=>
  rw[bQ]at ah
  simp only[dV,wH]at ah
  split at ah
  ·simp only[Option.some.injEq]at ah;subst ah;simp only[bz]at af
  ·cases ah
 |nilCheck x=>rw[bQ]at ah;obtain⟨v,aj,rfl⟩:=map_some ah;exact aiC h bQ aj af
 |binOp op t x y v5=>rw[bQ]at ah;exact ajW h bQ ah af
 |unOp op t x=>rw[bQ]at ah;obtain⟨v,aj,rfl⟩:=map_some ah;exact akD h bQ aj af
 |convert s t x=>rw[bQ]at ah;exact aji h bQ ah af
 |fieldAddr s x f=>rw[bQ]at ah;exact aiD h bQ ah af
 |field s x f=>rw[bQ]at ah;exact aiE h bQ ah af
 |indexAddr t x i=>rw[bQ]at ah;exact aiF h bQ ah af
 |index t x i=>rw[bQ]at ah;exact ajX h bQ ah af
 |extract x i=>rw[bQ]at ah;obtain⟨v,aj,rfl⟩:=map_some ah;exact ajj h bQ aj af
 |makeFunc f x y=>
  rw[bQ]at ah
  cases f with
  |func f=>exact ajk h bQ ah af
  |_=>cases ah
 |makeSlice t x y=>
  rw[bQ]at ah
  simp only[dV,wL]at ah
  split at ah
  ·split at ah
   ·split at ah
    ·simp only[Option.some.injEq]at ah;subst ah;simp only[bz]at af
    ·cases ah
   ·cases ah
  ·cases ah
 |slice t x lo hi pS=>rw[bQ]at ah;exact aiG h bQ ah af
 |build t parts=>rw[bQ]at ah;exact(ahW h ah af).done (by simp[execOp,bQ])
 |buildSlice t len parts=>rw[bQ]at ah;exact aie h bQ ah af
 |call c=>
  rw[bQ]at ah
  cases c with
  |mk callee args dv=>
   cases callee with
   |builtin b=>exact ahX h bQ ah af
   |invoke r m=>cases ah
   |value x=>
    simp only[dV,vb]at ah
    split at ah
    ·rename_i e;cases e
    ·obtain⟨v,aj,rfl⟩:=map_some ah;simp[bJ.p6]at au
    ·split at ah
     ·simp only[Option.some.injEq]at ah;subst ah;simp[bJ.p6]at au
     ·cases ah
    ·cases ah
 |panic x=>rw[bQ]at ah;have:bJ.bad=l:=Option.some.inj ah;subst this;simp only[bz]at af
 |makeInterface t x=>rw[bQ]at ah;have:bJ.bad=l:=Option.some.inj ah;subst this;simp only[bz]at af
 |_=>rw[bQ]at ah;cases ah
end
end RV
namespace RV
open Go Go.RowKit
def A8 (P:Program) (f:Nat):Prop:=∃fn,P.funcs[f]? =some fn∧(fn.name== "runtime.NumGoroutine")=false∧fn.body.isNone=false
def PK (w w':World) (d:D) (v:Value):Prop:=
 ∃c n A cap,jF d=some (c,n)∧v= .slice A n cap∧n≤cap∧((n=0∧cap=0)∨
  ∃r:dp,r.whole=true∧w.heap.size≤r.cc∧qY w' r∧fq w' (fun _=>none) (fun _=>none) r c∧A=some (cellAt r.cc r.off)∧cap*r.sz≤r.len)
def zl (C:bC) (rd:Mem) (w w':World) (d:D) (v:Value):Prop:=
 (C.own=false→bA (jR w w' rd) d v)∧(C.own=true→PK w w' d v)
theorem zl.rep {C:bC} {rd:Mem} {w w':World} {d:D} {v:Value} (h:zl C rd w w' d v):bA (jR w w' rd) d v:=by
 cases au:C.own with
 |false=>exact h.1 au
 |true=>
  obtain⟨c,n,A,cap,aL,rfl,aQ,hA⟩:=h.2 au
  have MC:∀{r:dp},w.heap.size≤r.cc→∀i,jR w w' rd (cellAt r.cc i)=w'.cell? (cellAt r.cc i):=fun {r} ar i=>by
   unfold jR
   exact if_neg (fun bw=>by simp only[cellAt]at bw;omega)
  cases d with
  |ints k xs=>
   simp only[jF,Option.some.injEq,Prod.mk.injEq]at aL
   obtain⟨rfl,rfl⟩:=aL
   simp only[bA]
   refine⟨A,cap,rfl,aQ,?_⟩
   rcases hA with ⟨h0,_⟩|⟨r,_,ar,_,aw,hA,_⟩
   ·exact .inl (List.eq_nil_of_length_eq_zero h0)
   ·exact .inr ⟨r.cc,r.off,hA,gp.cells (fun i _ _=>MC ar i) aw.2.2⟩
  |flts xs=>
   simp only[jF,Option.some.injEq,Prod.mk.injEq]at aL
   obtain⟨rfl,rfl⟩:=aL
   simp only[bA]
   refine⟨A,cap,rfl,aQ,?_⟩
   rcases hA with ⟨h0,_⟩|⟨r,_,ar,_,aw,hA,_⟩
   ·exact .inl (List.eq_nil_of_length_eq_zero h0)
   ·exact .inr ⟨r.cc,r.off,hA,gG.cells (fun i _ _=>MC ar i) aw.2.2⟩
  |_=>simp[jF]at aL
def ld (P:Program) (B:Mem) (f:Nat) (C:bC):Prop:=
 A8 P f∧∀ds,C.pre ds→∀w rd vs,b7 B rd→b7 rd w.cell?→bV rd ds vs.toList→
  Calls P f vs w fun e w'=>∃v,e= .returned v∧Below w.heap.size w w'∧zl C rd w w' (C.res ds) v
def aa8 (P:Program) (B:Mem) (Γ:Env):Prop:=∀f C,Γ.fn f=some C→ld P B f C
mutual
theorem YG {m ft:Mem} :∀(d:D) (v:Value),d.flat=true→bA m d v→bA ft d v
 | .bool _,_,_,H=>by simpa only[bA]using H
 | .int _ _,_,_,H=>by simpa only[bA]using H
 | .flt _,_,_,H=>by simpa only[bA]using H
 | .ints _ _,_,h,_=>by simp[D.flat]at h
 | .flts _,_,h,_=>by simp[D.flat]at h
 | .recs _ _,_,h,_=>by simp[D.flat]at h
 | .ptr _,_,h,_=>by simp[D.flat]at h
 | .agg cs,_,h,H=>by
   simp only[bA]at*
   obtain⟨vs,e,H⟩:=H
   exact⟨vs,e,O5 cs _ (by simpa [D.flat]using h) H⟩
 | .fh cs,_,h,H=>by
   simp only[bA]at*
   obtain⟨vs,e,H⟩:=H
   exact⟨vs,e,O5 cs _ (by simpa [D.flat]using h) H⟩
 | .fn _ _ _,_,h,_=>by simp[D.flat]at h
 | .nilfn,_,h,_=>by simp[D.flat]at h
 | .nilp,_,h,_=>by simp[D.flat]at h
theorem O5 {m ft:Mem} :∀(ds:List D) (vs:List Value),D.xW ds=true→bV m ds vs→bV ft ds vs
 |[],_,_,H=>by simpa only[bV]using H
 |d::ds,_,h,H=>by
  simp only[D.xW,Bool.and_eq_true]at h
  simp only[bV]at*
  obtain⟨v,us,e,h1,h2⟩:=H
  exact⟨v,us,e,YG d v h.1 h1,O5 ds us h.2 h2⟩
end
section
variable {N:Nat} {aU:eW} {aP:Mem} {R:bU} {σ σ':St} {a:Act} {w:World} {rd:Mem} {β β':bU} {P:Program} {Γ:Env}
theorem Po {b8:World} (aw:Below w.heap.size w b8) {m:Mem} (h:b7 m w.cell?):b7 m b8.cell? :=fun aV v e=>by
 rw[uH (aw.block _ (yQ (h aV v e)))];exact h aV v e
theorem ajY {b8:World} (aw:Below w.heap.size w b8) {m:Mem} (h:b7 m w.cell?):b7 (jR w b8 m) b8.cell? :=fun aV v e=>by
 unfold jR at e
 split at e
 ·exact Po aw h aV v e
 ·exact e
theorem ajZ {b8:World} {m:Mem} (h:b7 m w.cell?):b7 m (jR w b8 m):=fun aV v e=>by
 simp[jR,yQ (h aV v e),e]
theorem bl.fresh (h:bl N aU aP R σ a w rd β) {b8:World} (aw:Below w.heap.size w b8):bl N aU aP R σ a b8 (jR w b8 rd) β:=
 h.more aw (ajZ h.c3) (ajY aw h.c3) fun aV v e aJ=>by simpa [jR,aJ]using e
theorem bl.below (h:bl N aU aP R σ a w rd β) {b8:World} (aw:Below w.heap.size w b8):bl N aU aP R σ a b8 rd β:=
 h.more aw (b7.refl _) (Po aw h.c3) fun _ _ e _=>e
theorem On {f:Nat} (bh:A8 P f) (vs:Array Value) (w:World):(callFunc f vs).run P w= .ok (.enter f vs) w:=by
 obtain⟨fn,h1,h2,aq⟩:=bh
 have SV:¬fn.name= "runtime.NumGoroutine" :=by simpa using h2
 have anZ:¬fn.body=none:=fun e=>by rw[e]at aq;cases aq
 simp[callFunc,h1,SV,anZ]
theorem CR {o:Oper} {f:Nat} {C:bC} (hf:ld P aP f C) {vs:Array Value} (ar:(execOp a.eval o).run P w= .ok (.enter f vs) w) {m:Mem} (ad:b7 aP m) (hm:b7 m w.cell?) {ds:List D} (a1:C.pre ds)
 (aL:bV m ds vs.toList) {next:Act→World→Prop} {Q:Exit→Act→World→Prop} (aQ:∀v b8,Below w.heap.size w b8→zl C m w b8 (C.res ds) v→next (a.put o.dst v) b8):o.wp P a w next Q:=by
 unfold Oper.wp
 rw[ar,Oper.upon_enter]
 refine(hf.2 ds a1 w m vs ad hm aL).mono ?_
 rintro e b8 ⟨v,rfl,h1,h2⟩
 exact aQ v b8 h1 h2
theorem O6 {o:Oper} {f:Nat} {args:Array Operand} {dv:Array TypeId} (bQ:o.op= .call { callee:= .value (.func f),args,argTypes:=dv }) (bh:A8 P f):
 (execOp a.eval o).run P w= .ok (.enter f (args.map a.eval)) w:=by
 simp[execOp,bQ,resolve,Act.eval,Deferred.ofValue,invoke,On bh]
theorem Kl {o:Oper} {x:Operand} {f:Nat} {gi vc:Array Value} {args:Array Operand} {dv:Array TypeId} (bQ:o.op= .call { callee:= .value x,args,argTypes:=dv }) (aj:a.eval x= .func (.func f) gi vc) (bh:A8 P f):
 (execOp a.eval o).run P w= .ok (.enter f (gi++args.map a.eval++vc)) w:=by
 simp[execOp,bQ,resolve,aj,Deferred.ofValue,invoke,On bh]
theorem CD {m:Mem} :∀{ds es:List D} {vs us:List Value},bV m ds vs→bV m es us→bV m (ds++es) (vs++us)
 |[],es,vs,us,h,k=>by simp only[bV]at h;simpa [h]using k
 |d::ds,es,vs,us,h,k=>by
  simp only[bV,List.cons_append]at*
  obtain⟨v,w5,rfl,h1,h2⟩:=h
  exact⟨v,w5++us,rfl,h1,CD h2 k⟩
theorem YH {m ft:Mem} {d:D} {v:Value} (hf:d.flat=true) (h:bA m d v):aX ft β (dn d) v:=tq (YG d v hf h)
theorem aiH (c0:aa8 P aP Γ) (h:bl N aU aP R σ a w rd β) {o:Oper} {l:bJ} (ah:dV P o.type o.op=some l) (au:l.p6=true) {K:ai→Prop} (af:bz Γ σ K l)
 (kG:∀x as,l= .hS x as→∀f u v,σ.a3 x≠ .dr f u v)
 {next:Act→World→Prop} {Q:Exit→Act→World→Prop} (aQ:∀av u w' rd',K av→bl N aU aP R σ a w' rd' β→aX rd' β av u→next (a.put o.dst u) w'):o.wp P a w next Q:=by
 have fin:∀{f:Nat} {C:bC} {vs:Array Value} {as:List ai} {us:List Value} {ds pre post:List D} {Wj Wk:List Value},ld P aP f C→toDs σ as=some ds→b6 rd β as us→bV rd pre Wj→bV rd post Wk→
  vs.toList=Wj++us++Wk→(execOp a.eval o).run P w= .ok (.enter f vs) w→C.pre (pre++ds++post)→((C.res (pre++ds++post)).flat=true∨ai.hl as=true)→K (dn (C.res (pre++ds++post)))→o.wp P a w next Q:=by
  intro f C vs as us ds pre post Wj Wk g4 hE has LL po zP ar a1 MD af
  rcases MD with yb|kH
  ·have aL:=toDs_rep h (S:=ja β as) as us ds hE has fun i r aV hi eC fz=>⟨i,r,hi,eC,fz⟩
   refine CR g4 ar (m:=plus w (ja β as) rd) (h.dK.trans (pg _ _ _)) (wC h.c3) a1 (by rw[zP];exact CD (CD (LL.mono (pg _ _ _) _ _) aL) (po.mono (pg _ _ _) _ _)) ?_
   intro v b8 aw aC
   exact aQ _ v b8 rd af (h.below aw) (YH yb aC.rep)
  ·have aL:=CN h kH hE has
   refine CR g4 ar h.dK h.c3 a1 (by rw[zP];exact CD (CD LL aL) po) ?_
   intro v b8 aw aC
   exact aQ _ v b8 _ af (h.fresh aw) (tq aC.rep)
 have adD:bV rd [] []:=by simp only[bV]
 cases bQ:o.op with
 |call c=>
  rw[bQ]at ah
  cases c with
  |mk callee args dv=>
   have hS:∀x dN as,eh P x=some dN→qM P dv.toList args.toList=some as→o.op= .call { callee:= .value x,args,argTypes:=dv }→(∀f u v,σ.a3 dN≠ .dr f u v)→bz Γ σ K (.hS dN as)→o.wp P a w next Q:=by
    intro x dN as aj has bQ kG af
    have c6:=e4 h aj
    simp only[bz]at af
    split at af
    ·rename_i f fst cap e
     rw[e]at c6
     simp only[aX,bA]at c6
     obtain⟨gi,vc,hu,bX,ch⟩:=c6
     split at af
     ·rename_i ds C hE g4
      have cA:=c0 f C g4
      exact fin cA hE (uJ h has) bX ch (by simp) (Kl bQ hu cA.1) af.1 af.2.1 af.2.2
     ·exact af.elim
    ·rename_i e
     exact absurd e (kG _ _ _)
    ·exact af.elim
   cases callee with
   |builtin b=>
    exfalso
    simp only[dV,vb,uL]at ah
    split at ah
    ·split at ah
     ·obtain⟨v,_,rfl⟩:=map_some ah;simp[bJ.p6]at au
     ·cases ah
    ·split at ah
     ·simp only[Option.some.injEq]at ah;subst ah;simp[bJ.p6]at au
     ·cases ah
    ·split at ah
     ·simp only[Option.some.injEq]at ah;subst ah;simp[bJ.p6]at au
     ·cases ah
    ·split at ah
     ·split at ah
      ·simp only[Option.some.injEq]at ah;subst ah;simp[bJ.p6]at au
      ·cases ah
     ·cases ah
    ·split at ah
     ·split at ah
      ·simp only[Option.some.injEq]at ah;subst ah;simp[bJ.p6]at au
      ·cases ah
     ·cases ah
    ·cases ah
   |invoke r m=>cases ah
   |value x=>
    simp only[dV,vb]at ah
    split at ah
    ·rename_i e;cases e
    ·rename_i f e
     simp only[Callee.value.injEq]at e
     subst e
     obtain⟨as,has,rfl⟩:=map_some ah
     simp only[bz]at af
     split at af
     ·rename_i ds C hE g4
      have cA:=c0 f C g4
      exact fin (pre:=[]) (post:=[]) cA hE (uJ h has) adD adD (by simp) (O6 bQ cA.1) (by simpa using af.1) (by simpa using af.2.1) (by simpa using af.2.2)
     ·exact af.elim
    ·rename_i dN eZ e
     simp only[Callee.value.injEq]at e
     subst e
     split at ah
     ·rename_i dN as aj has
      simp only[Option.some.injEq]at ah;subst ah
      exact hS _ _ _ aj has bQ (kG _ _ rfl) af
     ·cases ah
    ·cases ah
 |makeFunc f x y=>
  exfalso
  rw[bQ]at ah
  cases f with
  |func f=>
   simp only[dV,va]at ah
   split at ah
   ·simp only[Option.some.injEq]at ah;subst ah;simp[bJ.p6]at au
   ·cases ah
  |_=>cases ah
 |_=>
  exfalso
  rw[bQ]at ah
  first
   |(cases ah;done)
   |(obtain⟨v,_,rfl⟩:=map_some ah;simp[bJ.p6]at au;done)
   |(have:=Option.some.inj ah;subst this;simp[bJ.p6]at au;done)
   |(simp only[dV,uP,u6,u7,wH,vl,u9,uW,uX,uY,uZ,wL,u0,u1,vm]at ah
     repeat' (split at ah)
     all_goals first
      |(cases ah;done)
      |(obtain⟨v,_,rfl⟩:=map_some ah;simp[bJ.p6]at au;done)
      |(simp only[Option.some.injEq]at ah;subst ah;simp[bJ.p6]at au;done))
end
end RV
namespace RV
open Go Go.RowKit
section
variable {N:Nat} {aU:eW} {aP:Mem} {R:bU} {σ σ':St} {a:Act} {w:World} {rd:Mem} {β β':bU} {P:Program} {Γ:Env}
def jb (w:World) (n sz:Nat):dp:=⟨w.heap.size,0,n,sz,true⟩
def fC (β:bU) (i:Nat) (r:Option dp):bU:=fun j=>if j=i then r else β j
theorem YI (w:World) (arr:Array Value) (e:TypeId) (sz:Nat):qY (w.alloc (.cells arr e)) (jb w arr.size sz):=
 ⟨arr,e,(0,0),Array.getElem?_push_size,by simp[jb],fun o _ _=>by simp,fun _=>⟨rfl,rfl,rfl⟩⟩
theorem Pp (w:World) (arr:Array Value) (e:TypeId) (j:Nat):(w.alloc (.cells arr e)).cell? (cellAt w.heap.size j)=arr[j]? :=World.cell?_alloc_new _ _ _ _
theorem cX.wD {w':World} {b:Nat} :∀{cs:List ai} {vs:List Value} {o:Nat},b6 rd β cs vs→(∀j,j<vs.length→w'.cell? (cellAt b (o+j))=vs[j]?)→cX w' rd β b o cs
 |[],_,_,_,_=>trivial
 |c::cs,vs,o,h,au=>by
  simp only[b6]at h
  obtain⟨v,us,rfl,h1,h2⟩:=h
  refine⟨⟨v,by simpa using au 0 (by simp),h1⟩,cX.wD h2 fun j aH=> ?_⟩
  have:=au (j+1) (by simpa using aH)
  rw[show o+1+j=o+(j+1)by omega]
  simpa using this
mutual
theorem aX.ext (g9:∀j r,β j=some r→β' j=some r):∀(x:ai) (v:Value),aX rd β x v→aX rd β' x v
 | .d x,_,H=>by simpa only[aX]using H
 | .agg cs,_,H=>by
   simp only[aX]at*
   obtain⟨vs,e,H⟩:=H
   exact⟨vs,e,b6.ext g9 cs _ H⟩
 | .box i _,_,H=>by
   simp only[aX]at*
   obtain⟨r,h1,h2⟩:=H
   exact⟨r,g9 _ _ h1,h2⟩
 | .own i _ _,_,H=>by
   simp only[aX]at*
   obtain⟨A,cap,h1,h2,aq⟩:=H
   exact⟨A,cap,h1,h2,aq.imp id fun⟨r,bE,bM⟩=>⟨r,g9 _ _ bE,bM⟩⟩
 | .ea i _ _,_,H=>by
   simp only[aX]at*
   obtain⟨r,h1,h2⟩:=H
   exact⟨r,g9 _ _ h1,h2⟩
 | .dr _ x y,_,H=>by
   simp only[aX]at*
   obtain⟨gi,vc,e,H1,fk⟩:=H
   exact⟨gi,vc,e,b6.ext g9 x _ H1,b6.ext g9 y _ fk⟩
 | .dF _,_,H=>by simpa only[aX]using H
 | .dt,_,H=>by simpa only[aX]using H
 | .any,_,_=>by simp only[aX]
theorem b6.ext (g9:∀j r,β j=some r→β' j=some r):∀(xs:List ai) (vs:List Value),b6 rd β xs vs→b6 rd β' xs vs
 |[],_,H=>by simpa only[b6]using H
 |x::xs,_,H=>by
  simp only[b6]at*
  obtain⟨v,us,e,h1,h2⟩:=H
  exact⟨v,us,e,aX.ext g9 x v h1,b6.ext g9 xs us h2⟩
end
structure De (σ σ':St) (i:Nat) (b:cr) (rd:Mem) (β:bU) (f:ai→ai):Prop where
 rep:∀r x v,aX rd β x v→aX rd (fC β i r) (f x) v
 ag:σ'.ag=fun t=>f (σ.ag t)
 az:∀j,σ'.az j=if j=i then some b else (σ.az j).map (cr.gJ f)
theorem xI (σ:St) (i:Nat) (b:cr):De σ (σ.fresh i b) i b rd β (ai.kill i):=
 ⟨fun r x v h=>aX.kill (fun j aH=>by simp[fC,aH]) h,rfl,fun j=>by
  simp only[St.fresh,qX]
  split
  ·rfl
  ·cases σ.az j with
   |none=>rfl
   |some b=>simp[cr.GX]⟩
theorem aif (h:bl N aU aP R σ a w rd β) {i:Nat} (hi:σ.az i=none) (b:cr):De σ (σ.eF i b) i b rd β (fun v=>v):=
 ⟨(fun r x v aj=>by
   have g9:β i=none:=by
    cases e:β i with
    |none=>rfl
    |some r=>obtain⟨b,aw,_⟩:=h.box i r e;rw[hi]at aw;cases aw
   refine aX.ext (fun j r' aH=> ?_) _ _ aj
   by_cases e:j=i
   ·subst e;rw[g9]at aH;cases aH
   ·simpa [fC,e]using aH),rfl,fun j=>by
   simp only[St.eF,qX]
   split
   ·rfl
   ·cases σ.az j with
    |none=>rfl
    |some b=>simp[cr.akz]⟩
theorem PL (h:bl N aU aP R σ a w rd β) {i:Nat} {cs:List ai} {arr:Array Value} {e:TypeId} {f:ai→ai} (ar:De σ σ' i ⟨false,false,.cells cs⟩ rd β f)
 (fH:b6 rd (fC β i (some (jb w arr.size 1))) cs arr.toList):
 bl N aU aP R σ' a (w.alloc (.cells arr e)) rd (fC β i (some (jb w arr.size 1))):=by
 refine h.new (i:=i) (b:=⟨false,false,.cells cs⟩) rfl (r:=jb w arr.size 1) rfl rfl (ar.rep _) ar.ag ar.az ?_ (YI _ _ _ _)
 refine⟨by have:=yL fH;simp at this;simp[jb,this],?_⟩
 refine cX.wD fH fun j aH=> ?_
 show (w.alloc (.cells arr e)).cell? (cellAt w.heap.size (0+j))=_
 rw[Nat.zero_add,Pp,Array.getElem?_toList]
theorem gp.GL {m:Mem} {k:IntKind} {b:Nat} :∀{xs:List Int} {o:Nat},(∀j x,xs[j]? =some x→m (cellAt b (o+j))=some (.int k x))→gp m k b o xs
 |[],_,_=>trivial
 |x::xs,o,h=>⟨by simpa using h 0 x rfl,gp.GL fun j y aH=>by
   have:=h (j+1) y (by simpa using aH)
   rw[show o+1+j=o+(j+1)by omega];exact this⟩
theorem gG.GL {m:Mem} {b:Nat} :∀{xs:List Nat} {o:Nat},(∀j x,xs[j]? =some x→∃y,m (cellAt b (o+j))=some (.float .f64 y)∧g6 y=x)→gG m b o xs
 |[],_,_=>trivial
 |x::xs,o,h=>⟨by simpa using h 0 x rfl,gG.GL fun j y aH=>by
   have:=h (j+1) y (by simpa using aH)
   rw[show o+1+j=o+(j+1)by omega];exact this⟩
theorem cZ.wD {w':World} {b:Nat} :∀{ds:List D} {vs:List Value} {o:Nat},bV rd ds vs→(∀j v,vs[j]? =some v→w'.cell? (cellAt b (o+j))=some v)→cZ w' rd b o ds
 |[],_,_,_,_=>trivial
 |d::ds,vs,o,h,au=>by
  simp only[bV]at h
  obtain⟨v,us,rfl,h1,h2⟩:=h
  refine⟨⟨v,by simpa using au 0 v rfl,h1⟩,cZ.wD h2 fun j u aH=> ?_⟩
  have:=au (j+1) u (by simpa using aH)
  rw[show o+1+j=o+(j+1)by omega];exact this
theorem hR.replicate {w':World} {b sz:Nat} {z:List D} (br:z.length=sz):∀{n o:Nat},(∀q,q<n→cZ w' rd b (o+q*sz) z)→hR w' rd b sz o (List.replicate n z)
 |0,_,_=>trivial
 |n+1,o,h=>by
  rw[List.replicate_succ]
  refine⟨br,by simpa using h 0 (by omega),hR.replicate br fun q a7=> ?_⟩
  have:=h (q+1) (by omega)
  rw[show o+sz+q*sz=o+(q+1)*sz by rw[Nat.succ_mul];omega];exact this
theorem ajm {z:Array Value} {n size j:Nat} {v:Value} (aG:z.size=size) (aH:j<n*size) (aC:z[j % size]? =some v):((Array.range (n*size)).map (z[· % z.size]!))[j]? =some v:=by
 have bw:j % size<z.size:=by
  rcases Nat.lt_or_ge (j % size) z.size with h|h
  ·exact h
  ·rw[Array.getElem?_eq_none h]at aC;cases aC
 rw[Array.getElem?_map,Array.getElem?_range]
 simp only[aH,if_true,Option.map_some,Option.some.injEq,aG]
 rw[getElem!_pos z _ bw]
 rw[Array.getElem?_eq_getElem bw]at aC
 simpa using aC
theorem ajn {ek:eG} {z:List D} {zs:Array Value} {n:Nat} {c:BC} (au:uT ek z n=some c) (br:bV rd z zs.toList) (fG:zs.size=ek.sz) {w':World} {r:dp} (ar:r.sz=ek.sz) (aJ:n*ek.sz≤r.len)
 (fB:∀j v,j<n*ek.sz→zs[j % ek.sz]? =some v→w'.cell? (cellAt r.cc (r.off+j))=some v):fq w' rd β r c:=by
 unfold uT at au
 split at au
 ·rename_i k eH
  split at au
  ·rename_i af
   subst af
   simp only[Option.some.injEq]at au;subst au
   simp only[bV,bA]at br
   obtain⟨v,us,aC,rfl,rfl⟩:=br
   simp only[eG.sz]at*
   refine⟨ar,by simpa using aJ,gp.GL fun j x aH=> ?_⟩
   have bw:j<n:=by
    rcases Nat.lt_or_ge j n with h|h
    ·exact h
    ·rw[List.getElem?_eq_none (by simpa using h)]at aH;cases aH
   rw[List.getElem?_replicate]at aH
   simp only[bw,if_true,Option.some.injEq]at aH
   subst aH
   refine fB j _ (by omega) ?_
   rw[Nat.mod_one,←Array.getElem?_toList,aC];rfl
  ·cases au
 ·simp only[Option.some.injEq]at au;subst au
  simp only[bV,bA]at br
  obtain⟨v,us,aC,⟨y,rfl,hy⟩,rfl⟩:=br
  simp only[eG.sz]at*
  refine⟨ar,by simpa using aJ,gG.GL fun j x aH=> ?_⟩
  have bw:j<n:=by
   rcases Nat.lt_or_ge j n with h|h
   ·exact h
   ·rw[List.getElem?_eq_none (by simpa using h)]at aH;cases aH
  rw[List.getElem?_replicate]at aH
  simp only[bw,if_true,Option.some.injEq]at aH
  subst aH
  refine⟨y,fB j _ (by omega) ?_,hy⟩
  rw[Nat.mod_one,←Array.getElem?_toList,aC];rfl
 ·rename_i sz
  split at au
  ·rename_i ME
   simp only[Option.some.injEq]at au;subst au
   simp only[eG.sz]at*
   refine⟨ar,by simpa using aJ,hR.replicate ME fun q a7=> ?_⟩
   refine cZ.wD br fun j v aH=> ?_
   have EP:j<sz:=by
    rcases Nat.lt_or_ge j sz with h|h
    ·exact h
    ·rw[List.getElem?_eq_none (by simp[fG];exact h)]at aH;cases aH
   have bw:q*sz+j<n*sz:=by
    have:(q+1)*sz≤n*sz:=Nat.mul_le_mul_right _ a7
    rw[Nat.succ_mul]at this;omega
   have:=fB (q*sz+j) v bw (by
    rw[Nat.mul_comm,Nat.mul_add_mod,Nat.mod_eq_of_lt EP,←Array.getElem?_toList];exact aH)
   rw[Nat.add_assoc];exact this
  ·cases au
 ·cases au
theorem PN (h:bl N aU aP R σ a w rd β) {i:Nat} {c:BC} {arr:Array Value} {e:TypeId} {sz:Nat} {f:ai→ai} (ar:De σ σ' i ⟨false,false,c⟩ rd β f)
 (au:fq (w.alloc (.cells arr e)) rd (fC β i (some (jb w arr.size sz))) (jb w arr.size sz) c):
 bl N aU aP R σ' a (w.alloc (.cells arr e)) rd (fC β i (some (jb w arr.size sz))):=
 h.new (i:=i) (b:=⟨false,false,c⟩) rfl (r:=jb w arr.size sz) rfl rfl (ar.rep _) ar.ag ar.az au (YI _ _ _ _)
theorem Z8 (h:bl N aU aP R σ a w rd β) {i:Nat} {c:BC} {f:ai→ai} (ar:De σ σ' i ⟨false,false,c⟩ rd β f) (aQ:c.isNil=true):bl N aU aP R σ' a w rd (fC β i none):=
 h.aa6 (i:=i) (b:=⟨false,false,c⟩) rfl aQ (ar.rep _) ar.ag ar.az
end
end RV
namespace RV
open Go Go.RowKit
def BC.e0:BC→Nat
 | .cells _=>0
 | .recs sz _=>sz
 |_=>1
def BC.elems:BC→List D
 | .cells _=>[]
 | .ints k xs=>xs.map (.int k)
 | .flts xs=>xs.map .flt
 | .recs _ xs=>xs.flatten
def BC.wf:BC→Prop
 | .recs sz xs=>∀r∈xs,r.length=sz
 |_=>True
def BC.arr:BC→Bool
 | .cells _=>false
 |_=>true
def D.yA:D→Option BC
 | .ints k xs=>some (.ints k xs)
 | .flts xs=>some (.flts xs)
 | .recs sz xs=>some (.recs sz xs)
 |_=>none
theorem J3 {α:Type} {sz:Nat} :∀{xs:List (List α)},(∀r∈xs,r.length=sz)→xs.flatten.length=xs.length*sz
 |[],_=>by simp
 |x::xs,h=>by
  rw[List.flatten_cons,List.length_append,J3 fun r ar=>h r (by simp[ar]),h x (by simp),List.length_cons,Nat.succ_mul,Nat.add_comm]
theorem Oo {α:Type} {sz:Nat} :∀{xs:List (List α)} (n:Nat),(∀r∈xs,r.length=sz)→(xs.take n).flatten=xs.flatten.take (n*sz)
 |[],n,_=>by simp
 |x::xs,0,_=>by simp
 |x::xs,n+1,h=>by
  rw[List.take_succ_cons,List.flatten_cons,List.flatten_cons,Oo n fun r ar=>h r (by simp[ar]),List.take_append]
  have:=h x (by simp)
  rw[List.take_of_length_le (l:=x) (by rw[this,Nat.succ_mul];omega),this,show (n+1)*sz - sz=n*sz by rw[Nat.succ_mul];omega]
theorem Xd {α:Type} {sz:Nat} :∀{xs:List (List α)} (n:Nat),(∀r∈xs,r.length=sz)→(xs.drop n).flatten=xs.flatten.drop (n*sz)
 |[],n,_=>by simp
 |x::xs,0,_=>by simp
 |x::xs,n+1,h=>by
  rw[List.drop_succ_cons,List.flatten_cons,Xd n fun r ar=>h r (by simp[ar]),List.drop_append]
  have:=h x (by simp)
  rw[List.drop_of_length_le (l:=x) (by rw[this,Nat.succ_mul];omega),this,show (n+1)*sz - sz=n*sz by rw[Nat.succ_mul];omega,List.nil_append]
theorem J7 {c:BC} (h:c.wf) (a9:c.arr=true):c.elems.length=c.count*c.e0:=by
 cases c with
 |cells cs=>cases a9
 |ints k xs=>simp[BC.elems,BC.count,BC.e0]
 |flts xs=>simp[BC.elems,BC.count,BC.e0]
 |recs sz xs=>exact J3 h
section
variable {N:Nat} {aU:eW} {aP:Mem} {R:bU} {σ σ':St} {a:Act} {w w':World} {rd:Mem} {β β':bU} {P:Program} {Γ:Env}
theorem cX.append {b:Nat} :∀{xs aB:List ai} {o:Nat},cX w rd β b o (xs++aB)↔cX w rd β b o xs∧cX w rd β b (o+xs.length) aB
 |[],aB,o=>by simp[cX]
 |x::xs,aB,o=>by
  simp only[List.cons_append,cX,cX.append (xs:=xs),List.length_cons]
  rw[show o+1+xs.length=o+(xs.length+1)by omega,and_assoc]
theorem cZ.iff {b:Nat} :∀{ds:List D} {o:Nat},cZ w rd b o ds↔cX w rd β b o (ds.map .d)
 |[],_=>by simp[cZ,cX]
 |d::ds,o=>by simp only[cZ,cX,List.map_cons,cZ.iff (ds:=ds),aX]
theorem cZ.append {b:Nat} :∀{xs aB:List D} {o:Nat},cZ w rd b o (xs++aB)↔cZ w rd b o xs∧cZ w rd b (o+xs.length) aB
 |[],aB,o=>by simp[cZ]
 |x::xs,aB,o=>by
  simp only[List.cons_append,cZ,cZ.append (xs:=xs),List.length_cons]
  rw[show o+1+xs.length=o+(xs.length+1)by omega,and_assoc]
theorem cZ.ints {b:Nat} {k:IntKind} :∀{xs:List Int} {o:Nat},gp w.cell? k b o xs↔cZ w rd b o (xs.map (.int k))
 |[],_=>by simp[cZ,gp]
 |x::xs,o=>by
  simp only[gp,List.map_cons,cZ,bA,cZ.ints (xs:=xs)]
  constructor
  ·rintro⟨h1,h2⟩;exact⟨⟨_,h1,rfl⟩,h2⟩
  ·rintro⟨⟨u,h1,rfl⟩,h2⟩;exact⟨h1,h2⟩
theorem cZ.flts {b:Nat} :∀{xs:List Nat} {o:Nat},gG w.cell? b o xs↔cZ w rd b o (xs.map .flt)
 |[],_=>by simp[cZ,gG]
 |x::xs,o=>by
  simp only[gG,List.map_cons,cZ,bA,cZ.flts (xs:=xs)]
  constructor
  ·rintro⟨⟨y,h1,e⟩,h2⟩;exact⟨⟨_,h1,y,rfl,e⟩,h2⟩
  ·rintro⟨⟨u,h1,y,rfl,e⟩,h2⟩;exact⟨⟨y,h1,e⟩,h2⟩
theorem cZ.rows {b sz:Nat} :∀{xs:List (List D)} {o:Nat},hR w rd b sz o xs↔(∀r∈xs,r.length=sz)∧cZ w rd b o xs.flatten
 |[],_=>by simp[cZ,hR]
 |x::xs,o=>by
  simp only[hR,List.flatten_cons,cZ.append,cZ.rows (xs:=xs),List.mem_cons,forall_eq_or_imp]
  constructor
  ·rintro⟨rfl,h2,aq,aE⟩;exact⟨⟨rfl,aq⟩,h2,aE⟩
  ·rintro⟨⟨rfl,aq⟩,h2,aE⟩;exact⟨rfl,h2,aq,aE⟩
theorem fq.elems {r:dp} {c:BC} (a9:c.arr=true):fq w rd β r c↔r.sz=c.e0∧c.count*c.e0≤r.len∧c.wf∧cZ w rd r.cc r.off c.elems:=by
 cases c with
 |cells cs=>cases a9
 |ints k xs=>simp only[fq,BC.e0,BC.count,BC.wf,BC.elems,true_and,Nat.mul_one];rw[cZ.ints]
 |flts xs=>simp only[fq,BC.e0,BC.count,BC.wf,BC.elems,true_and,Nat.mul_one];rw[cZ.flts]
 |recs sz xs=>simp only[fq,BC.e0,BC.count,BC.wf,BC.elems];rw[cZ.rows]
theorem cZ.HD {b:Nat} :∀{ds:List D} {o:Nat},cZ w rd b o ds→∃us:List Value,bV rd ds us∧us.length=ds.length∧∀j x,us[j]? =some x→w.cell? (cellAt b (o+j))=some x
 |[],_,_=>⟨[],by simp only[bV],rfl,by simp⟩
 |d::ds,o,⟨⟨u,h1,h2⟩,aq⟩=>by
  obtain⟨us,bE,bM,bn⟩:=cZ.HD aq
  refine⟨u::us,by simp only[bV];exact⟨u,us,rfl,h2,bE⟩,by simp[bM],fun j x aH=> ?_⟩
  cases j with
  |zero=>simp only[List.getElem?_cons_zero,Option.some.injEq]at aH;subst aH;exact h1
  |succ j=>rw[show o+(j+1)=o+1+j by omega];exact bn j x (by simpa using aH)
theorem cX.write {b o p:Nat} {xs vs:List ai} (h:cX w rd β b o xs) (a1:p+vs.length≤xs.length) (aC:cX w' rd β b (o+p) vs)
 (g8:∀k,¬(o+p≤k∧k<o+p+vs.length)→w'.cell? (cellAt b k)=w.cell? (cellAt b k)):
 cX w' rd β b o (xs.take p++vs++xs.drop (p+vs.length)):=by
 have aJ:(xs.take p).length=p:=by rw[List.length_take];omega
 rw[cX.append,cX.append,aJ,List.length_append,aJ]
 refine⟨⟨?_,aC⟩,?_⟩
 ·exact(h.take p).mono (fun i h1 h2=>g8 i (by rw[aJ]at h2;omega)) (fun _ _ _ H=>H)
 ·rw[show o+(p+vs.length)=o+(p+vs.length)from rfl]
  exact(h.drop (p+vs.length)).mono (fun i h1 h2=>g8 i (by omega)) (fun _ _ _ H=>H)
theorem cZ.write {b o p:Nat} {xs vs:List D} (h:cZ w rd b o xs) (a1:p+vs.length≤xs.length) (aC:cZ w' rd b (o+p) vs)
 (g8:∀k,¬(o+p≤k∧k<o+p+vs.length)→w'.cell? (cellAt b k)=w.cell? (cellAt b k)):
 cZ w' rd b o (xs.take p++vs++xs.drop (p+vs.length)):=by
 have:=cX.write (w':=w') (p:=p) ((cZ.iff (β:=fun _=>none)).1 h) (vs:=vs.map .d) (by simpa using a1) (cZ.iff.1 aC) (by simpa using g8)
 rw[cZ.iff (β:=fun _=>none)]
 simpa [List.map_take,List.map_drop]using this
theorem ahY {b k:Nat} {arr:Array Value} {t:TypeId} {cE:Nat×Nat} (hw:w.heap[b]? =some (.cells arr t cE)) (v:Value):
 w.setCell ⟨b,k,none⟩ v= { w with heap:=w.heap.setIfInBounds b (.cells (arr.setIfInBounds k v) t cE) } :=by
 unfold World.setCell
 congr 1
 apply Array.ext_getElem?
 intro j
 rw[Array.getElem?_modify]
 by_cases e:b=j
 ·subst e
  have bw:=(Array.getElem?_eq_some_iff.1 hw).1
  rw[Array.getElem?_setIfInBounds_self_of_lt bw,if_pos rfl,hw]
  simp
 ·rw[Array.getElem?_setIfInBounds_ne e,if_neg e]
theorem W4 {b:Nat} {t:TypeId} {cE:Nat×Nat} :∀(vs:List Value) (o:Nat) {w:World} {arr:Array Value},w.heap[b]? =some (.cells arr t cE)→
 ∃kf,w.setCells b o vs= { w with heap:=w.heap.setIfInBounds b (.cells kf t cE) }∧kf.size=arr.size∧∀k,¬(o≤k∧k<o+vs.length)→kf[k]? =arr[k]?
 |[],o,w,arr,hw=>⟨arr,by
    have bw:=(Array.getElem?_eq_some_iff.1 hw).1
    rw[World.setCells]
    have:w.heap.setIfInBounds b (.cells arr t cE)=w.heap:=by
     apply Array.ext_getElem?
     intro j
     by_cases e:b=j
     ·subst e;rw[Array.getElem?_setIfInBounds_self_of_lt bw,hw]
     ·rw[Array.getElem?_setIfInBounds_ne e]
    rw[this],rfl,fun _ _=>rfl⟩
 |v::vs,o,w,arr,hw=>by
  have bw:=(Array.getElem?_eq_some_iff.1 hw).1
  have aG:=ahY (k:=o) hw v
  obtain⟨kf,h1,h2,aq⟩:=W4 vs (o+1) (w:=w.setCell ⟨b,o,none⟩ v) (arr:=arr.setIfInBounds o v) (by rw[aG];exact Array.getElem?_setIfInBounds_self_of_lt bw)
  refine⟨kf,?_,by simpa using h2,fun k af=> ?_⟩
  ·rw[World.setCells,h1,aG]
   simp
  ·rw[aq k (by simp at af;omega),Array.getElem?_setIfInBounds_ne (by simp at af;omega)]
theorem bl.write (h:bl N aU aP R σ a w rd β) {i:Nat} {r:dp} (hi:β i=some r) {e:Bool} {c:BC} (aj:σ.az i=some ⟨false,e,c⟩) {vs:List Value} {p:Nat} (a1:p+vs.length≤r.len) (h1:∀v∈vs,v.oneCell'=true):
 ∃w',(storeCells (cellAt r.cc (r.off+p)) vs).run P w= .ok () w'∧(∀c',fq w' rd β r c'→bl N aU aP R (σ.eF i ⟨false,e,c'⟩) a w' rd β)∧
  (∀j v,vs[j]? =some v→w'.cell? (cellAt r.cc (r.off+p+j))=some v)∧(∀k,¬(r.off+p≤k∧k<r.off+p+vs.length)→w'.cell? (cellAt r.cc k)=w.cell? (cellAt r.cc k)):=by
 obtain⟨b,EM,au,⟨arr,t,cE,hw,fG,hfz,_⟩,_⟩:=h.box i r hi
 have fB:∀j,j<vs.length→(w.cell? (cellAt r.cc (r.off+p+j))).isSome=true:=fun j aH=>by
  simp only[World.cell?,cellAt,hw]
  simp;omega
 have MC:∀j,j<vs.length→w.frozen? (cellAt r.cc (r.off+p+j))=false:=fun j aH=>by
  have:=hfz (r.off+p+j) (by omega) (by omega)
  have e:w.heap[(cellAt r.cc (r.off+p+j)).block]? =some (.cells arr t cE):=hw
  simp only[World.frozen?,e]
  show (decide (cE.1≤r.off+p+j) && decide (r.off+p+j<cE.2))=false
  rw[Bool.and_eq_false_iff,decide_eq_false_iff_not,decide_eq_false_iff_not]
  omega
 have vo:=run_storeCells_cells (P:=P) r.cc (r.off+p) vs 0 w (by simpa [cellAt]using fB) (by simpa [cellAt]using MC) h1
 obtain⟨kf,f1,f2,f3⟩:=W4 vs (r.off+p) hw
 refine⟨w.setCells r.cc (r.off+p) vs,by simpa [cellAt]using vo,fun c' cT=> ?_,fun j v aH=> ?_,fun k af=> ?_⟩
 ·rw[f1]at cT⊢
  exact h.store hi aj hw f2 (fun k af=>f3 k (by omega)) cT
 ·have bw:j<vs.length:=(List.getElem?_eq_some_iff.1 aH).1
  have:=World.cell?_setCells_in r.cc vs (r.off+p) w (by simpa [cellAt]using fB) j bw
  rw[cellAt,this,←aH,List.getElem?_eq_getElem bw]
 ·exact World.cell?_setCells_out r.cc vs (r.off+p) w (cellAt r.cc k) (fun _ _=>by simp only[cellAt];omega)
end
end RV
