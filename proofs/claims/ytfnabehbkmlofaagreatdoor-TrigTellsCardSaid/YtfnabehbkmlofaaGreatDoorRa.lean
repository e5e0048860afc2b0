/- Lemmas for a claim: an abstract machine for the translated code, proved sound, and contracts of functions. By an AI agent. -/
import Derived.Orders
import Derived.Below
import Derived.KernelRfl
import Derived.OwnWalk
import Derived.IntWalk
set_option linter.all false
namespace RV
open Go
theorem ao {p:Prop} (h:p:=by exact⟨rfl,rfl,rfl⟩):p:=h
def E6:Nat:=0x7ff8000000000001
def eL (b:Nat):Nat:=if (Ieee.double.read b).isNaN then E6 else b
inductive D where
 |bool (b:Bool)
 |int (k:IntKind) (n:Int)
 |flt (x:Nat)
 |ints (k:IntKind) (xs:List Int)
 |flts (xs:List Nat)
 |recs (sz:Nat) (xs:List (List D))
 |ptr (cs:List D)
 |agg (cs:List D)
 |du (ds:List D)
 |fn (f:Nat) (fst cap:List D)
 |nilfn
 |nilp
 |nili
 |nilm
 |ifc (t:Nat) (d:D)
 deriving Inhabited
abbrev Mem:=Addr→Option Value
def cellAt (b o:Nat):Addr:=⟨b,o,none⟩
def gX (rd:Mem) (k:IntKind) (b:Nat):Nat→List Int→Prop
 |_,[]=>True
 |o,x::xs=>rd (cellAt b o)=some (.int k x)∧gX rd k b (o+1) xs
def gY (rd:Mem) (b:Nat):Nat→List Nat→Prop
 |_,[]=>True
 |o,x::xs=>(∃y,rd (cellAt b o)=some (.float .f64 y)∧eL y=x)∧gY rd b (o+1) xs
mutual
def bj (rd:Mem):D→Value→Prop
 | .bool b,v=>v= .bool b
 | .int k n,v=>v= .int k n
 | .flt x,v=>∃y,v= .float .f64 y∧eL y=x
 | .ints k xs,v=>∃A cap,v= .slice A xs.length cap∧xs.length≤cap∧(xs=[]∨∃b o,A=some (cellAt b o)∧gX rd k b o xs)
 | .flts xs,v=>∃A cap,v= .slice A xs.length cap∧xs.length≤cap∧(xs=[]∨∃b o,A=some (cellAt b o)∧gY rd b o xs)
 | .recs sz xs,v=>∃A cap,v= .slice A xs.length cap∧xs.length≤cap∧(xs=[]∨∃b o,A=some (cellAt b o)∧gG rd b sz o xs)
 | .ptr cs,v=>∃b o,v= .pointer (some (cellAt b o))∧gk rd b o cs
 | .agg cs,v=>∃vs,v= .agg vs∧bP rd cs vs.toList
 | .du ds,v=>∃vs,v= .tuple vs∧bP rd ds vs.toList
 | .fn f fst cap,v=>∃gd vc,v= .func (.func f) gd vc∧bP rd fst gd.toList∧bP rd cap vc.toList
 | .nilfn,v=>v= .nilFunc
 | .nilp,v=>v= .pointer none
 | .nili,v=>v= .nilIface
 | .nilm,v=>v= .map none
 | .ifc t d,v=>∃u,v= .iface t u∧bj rd d u
def bP (rd:Mem):List D→List Value→Prop
 |[],vs=>vs=[]
 |d::ds,vs=>∃v us,vs=v::us∧bj rd d v∧bP rd ds us
def gk (rd:Mem) (b:Nat):Nat→List D→Prop
 |_,[]=>True
 |o,d::ds=>(∃v,rd (cellAt b o)=some v∧bj rd d v)∧gk rd b (o+1) ds
def gG (rd:Mem) (b sz:Nat):Nat→List (List D)→Prop
 |_,[]=>True
 |o,r::rs=>r.length=sz∧gk rd b o r∧gG rd b sz (o+sz) rs
end
def b3 (r r':Mem):Prop:=∀a v,r a=some v→r' a=some v
theorem b3.refl (r:Mem):b3 r r:=fun _ _ h=>h
theorem b3.trans {a b c:Mem} (h:b3 a b) (k:b3 b c):b3 a c:=fun x v aj=>k x v (h x v aj)
theorem gX.mono {r r':Mem} (h:b3 r r') {k b} :∀{o xs},gX r k b o xs→gX r' k b o xs
 |_,[],_=>trivial
 |_,_::_,⟨h1,h2⟩=>⟨h _ _ h1,gX.mono h h2⟩
theorem gY.mono {r r':Mem} (h:b3 r r') {b} :∀{o xs},gY r b o xs→gY r' b o xs
 |_,[],_=>trivial
 |_,_::_,⟨⟨y,h1,e⟩,h2⟩=>⟨⟨y,h _ _ h1,e⟩,gY.mono h h2⟩
mutual
theorem bj.mono {r r':Mem} (h:b3 r r'):∀(d:D) (v:Value),bj r d v→bj r' d v
 | .bool _,_,H=>by simpa only[bj]using H
 | .int _ _,_,H=>by simpa only[bj]using H
 | .flt _,_,H=>by simpa only[bj]using H
 | .ints _ _,_,H=>by
   simp only[bj]at*
   obtain⟨A,c,e,l,H⟩:=H
   exact⟨A,c,e,l,H.imp id fun⟨b,o,e,H⟩=>⟨b,o,e,H.mono h⟩⟩
 | .flts _,_,H=>by
   simp only[bj]at*
   obtain⟨A,c,e,l,H⟩:=H
   exact⟨A,c,e,l,H.imp id fun⟨b,o,e,H⟩=>⟨b,o,e,H.mono h⟩⟩
 | .recs sz xs,_,H=>by
   simp only[bj]at*
   obtain⟨A,c,e,l,H⟩:=H
   exact⟨A,c,e,l,H.imp id fun⟨b,o,e,H⟩=>⟨b,o,e,gG.mono h xs o H⟩⟩
 | .ptr cs,_,H=>by
   simp only[bj]at*
   obtain⟨b,o,e,H⟩:=H
   exact⟨b,o,e,gk.mono h cs o H⟩
 | .agg cs,_,H=>by
   simp only[bj]at*
   obtain⟨vs,e,H⟩:=H
   exact⟨vs,e,bP.mono h cs _ H⟩
 | .du cs,_,H=>by
   simp only[bj]at*
   obtain⟨vs,e,H⟩:=H
   exact⟨vs,e,bP.mono h cs _ H⟩
 | .fn _ a b,_,H=>by
   simp only[bj]at*
   obtain⟨gd,vc,e,H,ayd⟩:=H
   exact⟨gd,vc,e,bP.mono h a _ H,bP.mono h b _ ayd⟩
 | .nilfn,_,H=>by simpa only[bj]using H
 | .nilp,_,H=>by simpa only[bj]using H
 | .nili,_,H=>by simpa only[bj]using H
 | .nilm,_,H=>by simpa only[bj]using H
 | .ifc _ d,_,H=>by
   simp only[bj]at*
   obtain⟨u,e,H⟩:=H
   exact⟨u,e,bj.mono h d _ H⟩
theorem bP.mono {r r':Mem} (h:b3 r r'):∀(ds:List D) (vs:List Value),bP r ds vs→bP r' ds vs
 |[],_,H=>by simpa only[bP]using H
 |d::ds,_,H=>by
  simp only[bP]at*
  obtain⟨v,us,e,h1,h2⟩:=H
  exact⟨v,us,e,bj.mono h d v h1,bP.mono h ds us h2⟩
theorem gk.mono {r r':Mem} (h:b3 r r') {b:Nat} :∀(ds:List D) (o:Nat),gk r b o ds→gk r' b o ds
 |[],_,_=>by simp only[gk]
 |d::ds,o,H=>by
  simp only[gk]at*
  obtain⟨⟨v,e,h1⟩,h2⟩:=H
  exact⟨⟨v,h _ _ e,bj.mono h d v h1⟩,gk.mono h ds _ h2⟩
theorem gG.mono {r r':Mem} (h:b3 r r') {b sz:Nat} :∀(rs:List (List D)) (o:Nat),gG r b sz o rs→gG r' b sz o rs
 |[],_,_=>by simp only[gG]
 |d::ds,o,H=>by
  simp only[gG]at*
  exact⟨H.1,gk.mono h d o H.2.1,gG.mono h ds _ H.2.2⟩
end
inductive bk where
 |t (n:Nat)
 |c (d:D)
 deriving Inhabited
inductive ag where
 |d (x:D)
 |agg (cs:List ag)
 |box (i off:Nat)
 |own (i lo n:Nat)
 |eo (i j off:Nat)
 |dk (f:Nat) (fst cap:List ag)
 |mp (i:Nat)
 |dv (l:Nat)
 |dB
 |any
 deriving Inhabited
inductive dM where
 |ints (k:IntKind)
 |flts
 |recs (sz:Nat)
def dM.sz:dM→Nat
 | .recs sz=>sz
 |_=>1
inductive BC where
 |cells (cs:List ag)
 |ints (k:IntKind) (xs:List Int)
 |flts (xs:List Nat)
 |recs (sz:Nat) (xs:List (List D))
 |map (n:Nat) (es:List (List Int×D))
structure cm where
 cx:Bool
 ext:Bool
 c:BC
structure St where
 af:Nat→ag
 aA:Nat→Option cm
def ag.pair:ag→Option (Int×Int)
 | .d (.agg [.int .i64 a,.int .i64 b])=>some (a,b)
 | .agg [.d (.int .i64 a),.d (.int .i64 b)]=>some (a,b)
 |_=>none
inductive bx where
 |bg (x:bk)
 |pick (c a b:bk)
 |load (n:Nat) (g:Bool) (x:bk)
 |zH (x:bk)
 |bin (op:BinOp) (x y:bk)
 |q5 (ne:Bool) (x y:bk)
 |yQ (ne:Bool) (x y:bk)
 |un (op:UnOp) (x:bk)
 |conv (k:IntKind) (x:bk)
 |ys (x:bk)
 |fM (off:Nat) (x:bk)
 |BI (off n:Nat) (g:Bool) (x:bk)
 |iE (sz:Nat) (x i:bk)
 |Bb (len sz:Nat) (x i:bk)
 |idx (len n:Nat) (g:Bool) (x i:bk)
 |l5 (i:Nat) (x:bk)
 |len (x:bk)
 |po (x y:bk)
 |Cd (x y:bk)
 |BJ (sz:Nat) (x:bk) (lo hi:Option bk)
 |build (zero:List D) (parts:List (Nat×Nat×bk))
 |rI (ek:dM) (parts:List bk)
 |Bn (f:Nat) (fst cap:List bk)
 |call (f:Nat) (args:List bk)
 |hJ (x:bk) (args:List bk)
 |alloc (zero:List D)
 |box (x:bk)
 |rJ (ek:dM) (zero:List D) (len:bk)
 |nil (ek:dM)
 |store (n:Nat) (a x:bk)
 |app (ek:dM) (x y:bk)
 |copy (ek:dM) (x y:bk)
 |Bc (x:bk)
 |yj (ne:Bool) (x:bk)
 |yR (ne:Bool) (len:Nat) (x y:bk)
 |BK (t:Nat) (x:bk)
 |sq (kQ:List (Nat×Nat×Option (Nat×Nat×Bool))) (x:bk) (args:List bk)
 |sj (x:bk)
 |oT (x:bk)
 |q0 (n:Nat)
 |yk (ks:List dM)
 |Bo (n:Nat) (ok:Bool) (zero:D) (m k:bk)
 |yt (n:Nat) (m k x:bk)
 |bad
structure bW where
 dst:Option Nat
 op:bx
 guard:Option (Nat×Bool)
inductive a3 where
 |skip
 |cC (ops:List bW)
 |oW (pre:List (bW×List Nat)) (yS:List bW)
 |seq (a b:a3)
 |cond (c:bk) (a b:a3)
 |block (id:Nat) (a:a3)
 |loop (a:a3)
 |exit (id:Nat)
 |ret
inductive bo where
 |tmp (t:Nat)
 |cell (t n:Nat) (g:Bool)
structure br where
 pre:List D→Prop
 res:List D→D
 own:Bool:=false
structure gu where
 pre:List ag→List BC→Prop
 res:List ag→List BC→D
 out:List ag→List BC→List BC
structure Env where
 fn:Nat→Option br
 mt:Nat→Option gu
def aI (z:Int):Prop:= -9223372036854775808≤z∧z≤9223372036854775807
def arith (k:IntKind) (z:Int) (K:ag→Prop):Prop:=
 match k with
 | .i64=>aI z∧K (.d (.int .i64 z))
 |k=>K (.d (.int k (k.wrap z)))
def iH (k:IntKind) (x y:Int):Int:=k.wrap (BitVec.ofInt k.bits x &&& BitVec.ofInt k.bits y).toNat
def vF (k:IntKind) (x y:Int):Int:=k.wrap (BitVec.ofInt k.bits x|||BitVec.ofInt k.bits y).toNat
def abD (k:IntKind) (x y:Int):Int:=k.wrap (BitVec.ofInt k.bits x^^^BitVec.ofInt k.bits y).toNat
def CF (k:IntKind) (x y:Int):Int:=k.wrap (BitVec.ofInt k.bits x &&& ~~~ BitVec.ofInt k.bits y).toNat
def uk (r:Option Nat):Nat:=match r with|some r=>eL r|none=>E6
def abE (x y:Nat):Nat:=uk (Ieee.double.add x y)
def abF (x y:Nat):Nat:=uk (Ieee.double.sub x y)
def Bp (x y:Nat):Nat:=uk (Ieee.double.mul x y)
def fdiv (x y:Nat):Nat:=uk (Ieee.double.div x y)
def hb (x:Nat):Nat:=eL (Op.negFloat .f64 x)
def flt (x y:Nat):Bool:=Ieee.double.order x y==some .lt
def cW (x y:Nat):Bool:=Ieee.double.order x y==some .eq
def BL (x y:Nat):Bool:=Ieee.double.order x y==some .lt||Ieee.double.order x y==some .eq
def um (x y:Nat):Bool:=Ieee.double.order x y==some .gt
def Ku (x y:Nat):Bool:=Ieee.double.order x y==some .gt||Ieee.double.order x y==some .eq
def EI (n:Int):Nat:=eL (FloatKind.f64.nearest n)
def E7 (op:BinOp) (k:IntKind) (x y:Int) (K:ag→Prop):Prop:=
 match op with
 | .add=>arith k (x+y) K
 | .sub=>arith k (x - y) K
 | .mul=>arith k (x*y) K
 | .quo=>y≠0∧arith k (x.tdiv y) K
 | .rem=>y≠0∧K (.d (.int k (x.tmod y)))
 | .and=>K (.d (.int k (iH k x y)))
 | .or=>K (.d (.int k (vF k x y)))
 | .xor=>K (.d (.int k (abD k x y)))
 | .andNot=>K (.d (.int k (CF k x y)))
 | .shl=>0≤y∧arith k (x*2^(min y.toNat k.bits)) K
 | .shr=>0≤y∧K (.d (.int k (x.fdiv (2^(min y.toNat k.bits)))))
 | .eql=>K (.d (.bool (x==y)))
 | .neq=>K (.d (.bool (x !=y)))
 | .lss=>K (.d (.bool (decide (x<y))))
 | .leq=>K (.d (.bool (decide (x≤y))))
 | .gtr=>K (.d (.bool (decide (x>y))))
 | .geq=>K (.d (.bool (decide (x≥y))))
def E8 (op:BinOp) (x y:Nat) (K:ag→Prop):Prop:=
 match op with
 | .add=>K (.d (.flt (abE x y)))
 | .sub=>K (.d (.flt (abF x y)))
 | .mul=>K (.d (.flt (Bp x y)))
 | .quo=>K (.d (.flt (fdiv x y)))
 | .eql=>K (.d (.bool (cW x y)))
 | .neq=>K (.d (.bool (!cW x y)))
 | .lss=>K (.d (.bool (flt x y)))
 | .leq=>K (.d (.bool (BL x y)))
 | .gtr=>K (.d (.bool (um x y)))
 | .geq=>K (.d (.bool (Ku x y)))
 |_=>False
def c3:D→ag
 | .agg cs=> .agg (cs.map .d)
 |x=> .d x
mutual
def ag.has (i:Nat):ag→Bool
 | .agg cs=>ag.df i cs
 | .box j _=>j==i
 | .own j _ _=>j==i
 | .eo j _ _=>j==i
 | .mp j=>j==i
 | .dk _ a b=>ag.df i a||ag.df i b
 |_=>false
def ag.df (i:Nat):List ag→Bool
 |[]=>false
 |x::xs=>x.has i||ag.df i xs
end
mutual
def ag.pure:ag→Bool
 | .d _=>true
 | .agg cs=>ag.g8 cs
 | .dk _ a b=>ag.g8 a && ag.g8 b
 |_=>false
def ag.g8:List ag→Bool
 |[]=>true
 |x::xs=>x.pure && ag.g8 xs
end
def ag.kill (i:Nat) (v:ag):ag:=match v with
 | .d x=> .d x
 |v=>if v.has i then .any else v
def BC.kill (i:Nat):BC→BC
 | .cells cs=> .cells (cs.map (ag.kill i))
 |c=>c
def cm.kill (i:Nat) (b:cm):cm:=⟨b.cx,b.ext,b.c.kill i⟩
mutual
def D.flat:D→Bool
 | .bool _| .int _ _| .flt _=>true
 | .agg cs=>D.CR cs
 | .du cs=>D.CR cs
 |_=>false
def D.CR:List D→Bool
 |[]=>true
 |d::ds=>d.flat && D.CR ds
end
def ae0 (f:Nat→ag) (d:Nat) (v:ag):Nat→ag:=fun t=>if t=d then v else f t
def lb (f:Nat→Option cm) (i:Nat) (b:cm):Nat→Option cm:=fun t=>if t=i then some b else f t
namespace St
def aU (σ:St):bk→ag
 | .t n=>σ.af n
 | .c d=>c3 d
def put (σ:St) (d:Option Nat) (v:ag):St:=match d with
 |some d=>⟨ae0 σ.af d v,σ.aA⟩
 |none=>σ
def ea (σ:St) (i:Nat) (b:cm):St:=⟨σ.af,lb σ.aA i b⟩
def fresh (σ:St) (i:Nat) (b:cm):St:=
 ⟨fun t=>(σ.af t).kill i,lb (fun j=>(σ.aA j).map (cm.kill i)) i b⟩
def forget (σ:St) (i:Nat):St:=⟨fun t=>(σ.af t).kill i,fun j=>(σ.aA j).map (cm.kill i)⟩
def vG (σ:St) (i:Nat):St:=⟨σ.af,fun j=>if j=i then (σ.aA j).map (fun b=>⟨true,b.ext,b.c⟩)else σ.aA j⟩
end St
def BC.part (lo n:Nat):BC→Option D
 | .cells _=>none
 | .ints k xs=>if lo+n≤xs.length then some (.ints k ((xs.drop lo).take n))else none
 | .flts xs=>if lo+n≤xs.length then some (.flts ((xs.drop lo).take n))else none
 | .recs sz xs=>if lo+n≤xs.length then some (.recs sz ((xs.drop lo).take n))else none
 | .map _ _=>none
def ag.NP:ag→Option D
 | .d x=>some x
 |_=>none
def u1:List ag→Option (List D)
 |[]=>some []
 |c::cs=>match c.NP,u1 cs with
  |some d,some ds=>some (d::ds)
  |_,_=>none
mutual
def toD (σ:St):ag→Option D
 | .d x=>some x
 | .agg cs=>match toDs σ cs with
   |some ds=>some (.agg ds)
   |none=>none
 | .own i lo n=>match σ.aA i with
   |some b=>b.c.part lo n
   |none=>none
 | .box i 0=>match σ.aA i with
   |some ⟨_,_,.cells cs⟩=>match u1 cs with
    |some ds=>some (.ptr ds)
    |none=>none
   |_=>none
 | .dk f a b=>match toDs σ a,toDs σ b with
   |some x,some y=>some (.fn f x y)
   |_,_=>none
 |_=>none
def toDs (σ:St):List ag→Option (List D)
 |[]=>some []
 |c::cs=>match toD σ c,toDs σ cs with
  |some d,some ds=>some (d::ds)
  |_,_=>none
end
mutual
def kd (σ:St):ag→St
 | .agg cs=>l6 σ cs
 | .box i _=>σ.vG i
 | .own i _ _=>σ.vG i
 | .eo i _ _=>σ.vG i
 | .mp i=>σ.vG i
 | .dk _ a b=>l6 (l6 σ a) b
 |_=>σ
def l6 (σ:St):List ag→St
 |[]=>σ
 |c::cs=>l6 (kd σ c) cs
end
mutual
def pR (σ:St):ag→Bool
 | .agg cs=>q6 σ cs
 | .box i _=>match σ.aA i with|some b=> !b.ext|none=>false
 | .own i _ _=>match σ.aA i with|some b=> !b.ext|none=>false
 | .eo i _ _=>match σ.aA i with|some b=> !b.ext|none=>false
 | .mp i=>match σ.aA i with|some b=> !b.ext|none=>false
 | .dk _ a b=>q6 σ a && q6 σ b
 |_=>true
def q6 (σ:St):List ag→Bool
 |[]=>true
 |c::cs=>pR σ c && q6 σ cs
end
def k8 (σ:St) (n:Nat) (g:Bool) (v:ag) (K:ag→Prop):Prop:=
 match v with
 | .d (.ptr cs)=>if g then n≤cs.length∧K (.agg ((cs.take n).map .d))else
   match cs with
   |d::_=>K (.d d)
   |[]=>False
 | .box i off=>match σ.aA i with
   |some ⟨_,_,.cells cs⟩=>if g then off+n≤cs.length∧K (.agg ((cs.drop off).take n))else
    match cs[off]? with
    |some v=>K v
    |none=>False
   |_=>False
 | .eo i j off=>match σ.aA i with
   |some ⟨_,_,.ints k xs⟩=>off=0∧g=false∧j<xs.length∧K (.d (.int k (xs.getD j 0)))
   |some ⟨_,_,.flts xs⟩=>off=0∧g=false∧j<xs.length∧K (.d (.flt (xs.getD j 0)))
   |some ⟨_,_,.recs _ xs⟩=>j<xs.length∧(if g then off+n≤(xs.getD j []).length∧K (.agg ((((xs.getD j []).drop off).take n).map .d))else
    match (xs.getD j [])[off]? with
    |some d=>K (.d d)
    |none=>False)
   |_=>False
 |_=>False
def ag.cells:ag→List ag
 | .agg cs=>cs
 |v=>[v]
def ag.dV:ag→Bool
 | .d (.agg _)| .d (.du _)| .agg _| .dv _| .dB| .any=>false
 |_=>true
def Bd (zero:List ag):List (Nat×Nat×ag)→Option (List ag)
 |[]=>some zero
 |(off,size,v)::r=>
  if v.cells.length=size∧off+size≤zero.length∧v.cells.all ag.dV=true then Bd (zero.take off++v.cells++zero.drop (off+size)) r else none
def cr (σ:St) (xs:List bk):List ag:=xs.map σ.aU
def yl (k:IntKind):List D→Option (List Int)
 |[]=>some []
 | .int cX n::r=>if cX=k then (yl k r).map (n:: ·)else none
 |_=>none
def ym:List D→Option (List Nat)
 |[]=>some []
 | .flt n::r=>(ym r).map (n:: ·)
 |_=>none
def oP (sz:Nat):List D→Option (List (List D))
 |[]=>some []
 | .agg cs::r=>if cs.length=sz then (oP sz r).map (cs:: ·)else none
 |d::r=>if sz=1 then (oP sz r).map ([d]:: ·)else none
def asSlice (ek:dM) (ds:List D):Option D:=
 match ek with
 | .ints k=>(yl k ds).map (.ints k)
 | .flts=>(ym ds).map .flts
 | .recs sz=>(oP sz ds).map (.recs sz)
def Jt (v:ag) (K:ag→Prop):Prop:=
 match v with
 | .d (.ints _ xs)=>K (.d (.int .i64 xs.length))
 | .d (.flts xs)=>K (.d (.int .i64 xs.length))
 | .d (.recs _ xs)=>K (.d (.int .i64 xs.length))
 | .own _ _ n=>K (.d (.int .i64 n))
 |_=>False
def p2:Option cm→Option Nat
 |some ⟨_,_,.recs sz _⟩=>some sz
 |some ⟨_,_,.ints _ _⟩=>some 1
 |some ⟨_,_,.flts _⟩=>some 1
 |_=>none
def bound (asC:Int) (v:Option ag) (K:Int→Prop):Prop:=
 match v with
 |none=>K asC
 |some (.d (.int _ n))=>K n
 |_=>False
def zF (σ:St) (sz:Nat) (v:ag) (i:Int) (K:ag→Prop):Prop:=
 match v with
 | .d (.ints k xs)=>sz=1∧0≤i∧i<xs.length∧K (.d (.ptr [.int k (xs.getD i.toNat 0)]))
 | .d (.flts xs)=>sz=1∧0≤i∧i<xs.length∧K (.d (.ptr [.flt (xs.getD i.toNat 0)]))
 | .d (.recs z xs)=>sz=z∧0≤i∧i<xs.length∧K (.d (.ptr (xs.getD i.toNat [])))
 | .own b lo n=>p2 (σ.aA b)=some sz∧0≤i∧i<n∧K (.eo b (lo+i.toNat) 0)
 |_=>False
def tG (σ:St) (sz:Nat) (v:ag) (lo hi:Option ag) (K:ag→Prop):Prop:=
 match v with
 | .d (.ints k xs)=>bound 0 lo fun l=>bound xs.length hi fun h=>sz=1∧0≤l∧l≤h∧h≤xs.length∧K (.d (.ints k ((xs.take h.toNat).drop l.toNat)))
 | .d (.flts xs)=>bound 0 lo fun l=>bound xs.length hi fun h=>sz=1∧0≤l∧l≤h∧h≤xs.length∧K (.d (.flts ((xs.take h.toNat).drop l.toNat)))
 | .d (.recs z xs)=>bound 0 lo fun l=>bound xs.length hi fun h=>sz=z∧0≤l∧l≤h∧h≤xs.length∧K (.d (.recs z ((xs.take h.toNat).drop l.toNat)))
 | .own b o n=>bound 0 lo fun l=>bound n hi fun h=>p2 (σ.aA b)=some sz∧0≤l∧l≤h∧h≤n∧K (.own b (o+l.toNat) (h.toNat - l.toNat))
 |_=>False
def ag.key:ag→Option (List Int)
 | .d (.int .i64 n)=>some [n]
 |v=>v.pair.map fun p=>[p.1,p.2]
def kc:List (List Int×D)→List Int→Option D
 |[],_=>none
 |(j,d)::r,k=>if j=k then some d else kc r k
def qW:List (List Int×D)→List Int→D→List (List Int×D)
 |[],k,d=>[(k,d)]
 |(j,v)::r,k,d=>if j=k then (k,d)::r else (j,v)::qW r k d
def sk:List D→Option (List Int)
 |[]=>some []
 | .int .i64 n::r=>(sk r).map (n:: ·)
 |_=>none
def q1:List ag→Option (List Int)
 |[]=>some []
 | .d (.int .i64 n)::r=>(q1 r).map (n:: ·)
 |_=>none
def ag.yz:ag→Option (List Int)
 | .d (.agg cs)=>sk cs
 | .agg cs=>q1 cs
 |_=>none
def tC (kq:Option (Nat×Nat×Bool)) (d:D):Option D:=
 match kq,d with
 |none,d=>some d
 |some (off,n,true),.agg cs=>if off+n≤cs.length then some (.agg ((cs.drop off).take n))else none
 |some (off,_,false),.agg cs=>cs[off]?
 |_,_=>none
def u9 (kQ:List (Nat×Nat×Option (Nat×Nat×Bool))) (t:Nat):Option (Nat×Option (Nat×Nat×Bool)):=
 match kQ with
 |[]=>none
 |(u,p)::r=>if u=t then some p else u9 r t
mutual
def ag.ids:ag→List Nat
 | .agg cs=>ag.jb cs
 | .box i _=>[i]
 | .own i _ _=>[i]
 | .eo i _ _=>[i]
 | .mp i=>[i]
 | .dk _ a b=>ag.jb a++ag.jb b
 |_=>[]
def ag.jb:List ag→List Nat
 |[]=>[]
 |c::cs=>c.ids++ag.jb cs
end
mutual
def ag.eh (g:Nat→Nat):ag→ag
 | .agg cs=> .agg (ag.g1 g cs)
 | .box i o=> .box (g i) o
 | .own i lo n=> .own (g i) lo n
 | .eo i j o=> .eo (g i) j o
 | .mp i=> .mp (g i)
 | .dk f a b=> .dk f (ag.g1 g a) (ag.g1 g b)
 |v=>v
def ag.g1 (g:Nat→Nat):List ag→List ag
 |[]=>[]
 |c::cs=>c.eh g::ag.g1 g cs
end
def bF:Nat:=1000000
def placeOf:List Nat→Nat→Nat
 |[],_=>0
 |j::r,i=>if j=i then 0 else placeOf r i+1
def distinct:List Nat→List Nat
 |[]=>[]
 |i::r=>i::(distinct r).filter (· !=i)
def BC.pure:BC→Bool
 | .cells cs=>ag.g8 cs
 | .map _ _=>false
 |_=>true
mutual
def ag.tidy (p:Nat→Bool):ag→Bool
 | .d _=>true
 | .agg cs=>ag.ij p cs
 | .box i _=>p i
 | .mp i=>p i
 | .dk _ a b=>ag.ij p a && ag.ij p b
 |_=>false
def ag.ij (p:Nat→Bool):List ag→Bool
 |[]=>true
 |c::cs=>c.tidy p && ag.ij p cs
end
def BC.tidy (p:Nat→Bool):BC→Bool
 | .cells cs=>ag.ij p cs
 |_=>true
def BC.eh (g:Nat→Nat):BC→BC
 | .cells cs=> .cells (ag.g1 g cs)
 |c=>c
def reach (σ:St) (is:List Nat):List Nat:=
 distinct (is++is.flatMap fun i=>match σ.aA i with
  |some ⟨_,_,.cells cs⟩=>ag.jb cs
  |_=>[])
def contents (σ:St) (p:Nat→Bool):List Nat→Option (List BC)
 |[]=>some []
 |i::r=>match σ.aA i,contents σ p r with
  |some ⟨false,_,c⟩,some cs=>if c.tidy p=true then some (c::cs)else none
  |_,_=>none
def yA (C:gu) (σ:St) (K:ag→Prop) (vs:List ag):Prop:=
 match contents σ (fun _=>false) (distinct (ag.jb vs))with
 |some cs=>C.pre (ag.g1 (fun i=>bF+placeOf (distinct (ag.jb vs)) i) vs) cs∧C.out (ag.g1 (fun i=>bF+placeOf (distinct (ag.jb vs)) i) vs) cs=cs∧K (c3 (C.res (ag.g1 (fun i=>bF+placeOf (distinct (ag.jb vs)) i) vs) cs))
 |none=>False
def bf (Γ:Env) (σ:St) (K:ag→Prop):bx→Prop
 | .bg x=>K (σ.aU x)
 | .pick c a b=>match σ.aU c with
   | .d (.bool t)=>(t=true→K (σ.aU a))∧(t=false→K (σ.aU b))
   |_=>False
 | .load n g x=>k8 σ n g (σ.aU x) K
 | .zH x=>match σ.aU x with
   | .box i o=>K (.box i o)
   | .eo i j o=>K (.eo i j o)
   | .d (.ptr cs)=>K (.d (.ptr cs))
   | .d (.fn f a b)=>K (.d (.fn f a b))
   | .dk f a b=>K (.dk f a b)
   |_=>False
 | .bin op x y=>match σ.aU x,σ.aU y with
   | .d (.int k a),.d (.int cX b)=>(k=cX∨op= .shl∨op= .shr)∧E7 op k a b K
   | .d (.flt a),.d (.flt b)=>E8 op a b K
   |_,_=>False
 | .q5 ne x y=>match σ.aU x,σ.aU y with
   | .d (.bool a),.d (.bool b)=>K (.d (.bool (if ne then a !=b else a==b)))
   |_,_=>False
 | .yQ ne x y=>match (σ.aU x).pair,(σ.aU y).pair with
   |some p,some q=>K (.d (.bool (if ne then !(p.1==q.1 && p.2==q.2)else (p.1==q.1 && p.2==q.2))))
   |_,_=>False
 | .un op x=>match op,σ.aU x with
   | .not,.d (.bool b)=>K (.d (.bool (!b)))
   | .neg,.d (.int k n)=>arith k (0 - n) K
   | .neg,.d (.flt b)=>K (.d (.flt (hb b)))
   |_,_=>False
 | .conv k x=>match σ.aU x with
   | .d (.int _ n)=>arith k n K
   |_=>False
 | .ys x=>match σ.aU x with
   | .d (.int _ n)=>K (.d (.flt (EI n)))
   | .d (.flt b)=>K (.d (.flt b))
   |_=>False
 | .fM off x=>match σ.aU x with
   | .box i o=>K (.box i (o+off))
   | .eo i j o=>K (.eo i j (o+off))
   | .d (.ptr cs)=>K (.d (.ptr (cs.drop off)))
   |_=>False
 | .BI off n g x=>match σ.aU x with
   | .agg cs=>if g then off+n≤cs.length∧K (.agg ((cs.drop off).take n))else
     match cs[off]? with
     |some v=>K v
     |none=>False
   |_=>False
 | .iE sz x i=>match σ.aU i with
   | .d (.int _ n)=>zF σ sz (σ.aU x) n K
   |_=>False
 | .Bb len sz x i=>match σ.aU x,σ.aU i with
   | .box b o,.d (.int _ n)=>0≤n∧n<len∧K (.box b (o+n.toNat*sz))
   | .d (.ptr cs),.d (.int _ n)=>0≤n∧n<len∧K (.d (.ptr (cs.drop (n.toNat*sz))))
   |_,_=>False
 | .idx len n g x i=>match σ.aU x,σ.aU i with
   | .agg cs,.d (.int _ j)=>0≤j∧j<len∧(if g then j.toNat*n+n≤cs.length∧K (.agg ((cs.drop (j.toNat*n)).take n))else
     match cs[j.toNat*n]? with
     |some v=>K v
     |none=>False)
   |_,_=>False
 | .l5 i x=>match σ.aU x with
   | .d (.du ds)=>match ds[i]? with
     |some d=>K (c3 d)
     |none=>False
   |_=>False
 | .len x=>Jt (σ.aU x) K
 | .po x y=>match σ.aU x,σ.aU y with
   | .d (.int k a),.d (.int _ b)=>K (.d (.int k (if b>a then b else a)))
   |_,_=>False
 | .Cd x y=>match σ.aU x,σ.aU y with
   | .d (.int k a),.d (.int _ b)=>K (.d (.int k (if b<a then b else a)))
   |_,_=>False
 | .BJ sz x lo hi=>tG σ sz (σ.aU x) (lo.map σ.aU) (hi.map σ.aU) K
 | .build zero parts=>match Bd (zero.map .d) (parts.map fun p=>(p.1,p.2.1,σ.aU p.2.2))with
   |some cs=>K (.agg cs)
   |none=>False
 | .rI ek parts=>ag.g8 (cr σ parts)=true∧match toDs σ (cr σ parts)with
   |some ds=>match asSlice ek ds with
    |some d=>K (.d d)
    |none=>False
   |none=>False
 | .Bn f fst cap=>if (ag.g8 (cr σ fst) && ag.g8 (cr σ cap))=true then
  match toDs σ (cr σ fst),toDs σ (cr σ cap)with
  |some a,some b=>K (.d (.fn f a b))
  |_,_=>False
   else K (.dk f (cr σ fst) (cr σ cap))
 | .call f args=>match toDs σ (cr σ args),Γ.fn f with
   |some ds,some C=>C.pre ds∧((C.res ds).flat=true∨ag.g8 (cr σ args)=true)∧K (c3 (C.res ds))
   |_,_=>False
 | .hJ x args=>match σ.aU x with
   | .d (.fn f fst cap)=>match toDs σ (cr σ args),Γ.fn f with
     |some ds,some C=>C.pre (fst++ds++cap)∧((C.res (fst++ds++cap)).flat=true∨ag.g8 (cr σ args)=true)∧K (c3 (C.res (fst++ds++cap)))
     |_,_=>False
   | .dk f fst cap=>match Γ.mt f with
     |some C=>yA C σ K (fst++cr σ args++cap)
     |none=>False
   |_=>False
 | .sq kQ x args=>match σ.aU x with
   | .d (.ifc t d)=>match u9 kQ t with
     |some (f,kq)=>match tC kq d,toDs σ (cr σ args),Γ.fn f with
      |some r,some ds,some C=>C.pre (r::ds)∧((C.res (r::ds)).flat=true∨ag.g8 (cr σ args)=true)∧K (c3 (C.res (r::ds)))
      |_,_,_=>False
     |none=>False
   |_=>False
 | .yj ne x=>match σ.aU x with
   | .d .nili=>K (.d (.bool (!ne)))
   | .d (.ifc _ _)=>K (.d (.bool ne))
   |_=>False
 | .yR ne len x y=>match (σ.aU x).yz,(σ.aU y).yz with
   |some p,some q=>p.length=len∧q.length=len∧K (.d (.bool (if ne then !(p==q)else p==q)))
   |_,_=>False
 | .BK t x=>(σ.aU x).pure=true∧match toD σ (σ.aU x)with
   |some d=>K (.d (.ifc t d))
   |none=>False
 | .oT x=>match σ.aU x with
   | .d (.int .u64 n)=>K (.d (.flt (eL n.toNat)))
   |_=>False
 | .Bo n ok zero m k=>match σ.aU m,(σ.aU k).key with
   | .mp i,some k=>match σ.aA i with
     |some ⟨_,_,.map kZ es⟩=>kZ=n∧k.length=n∧match kc es k with
      |some d=>K (if ok then .d (.du [d,.bool true])else c3 d)
      |none=>K (if ok then .d (.du [zero,.bool false])else c3 zero)
     |_=>False
   |_,_=>False
 |_=>False
def tu (ek:dM) (zero:List D) (n:Nat):Option BC:=
 match ek,zero with
 | .ints k,[.int cX 0]=>if cX=k then some (.ints k (List.replicate n 0))else none
 | .flts,[.flt 0]=>some (.flts (List.replicate n 0))
 | .recs sz,z=>if z.length=sz then some (.recs sz (List.replicate n z))else none
 |_,_=>none
def lV:dM→BC
 | .ints k=> .ints k []
 | .flts=> .flts []
 | .recs sz=> .recs sz []
def tv (c:BC) (off:Nat) (vs:List ag):Option BC:=
 match c with
 | .cells cs=>if off+vs.length≤cs.length then some (.cells (cs.take off++vs++cs.drop (off+vs.length)))else none
 |_=>none
def u2 (c:BC) (j off:Nat) (vs:List ag):Option BC:=
 match c,vs with
 | .ints k xs,[.d (.int cX n)]=>if cX=k∧off=0∧j<xs.length then some (.ints k (xs.set j n))else none
 | .flts xs,[.d (.flt n)]=>if off=0∧j<xs.length then some (.flts (xs.set j n))else none
 | .recs sz xs,vs=>match u1 vs with
   |some ds=>if j<xs.length∧off+ds.length≤sz then some (.recs sz (xs.set j ((xs.getD j []).take off++ds++(xs.getD j []).drop (off+ds.length))))else none
   |none=>none
 |_,_=>none
def Em (aC:List (List D)):Bool:=aC.all fun r=>r.all fun d=>(ag.d d).dV
def E9 (c:BC) (d:D):Option BC:=
 match c,d with
 | .ints k xs,.ints cX aC=>if cX=k then some (.ints k (xs++aC))else none
 | .flts xs,.flts aC=>some (.flts (xs++aC))
 | .recs sz xs,.recs Dl aC=>if Dl=sz∧Em aC=true then some (.recs sz (xs++aC))else none
 |_,_=>none
def over {α:Type} (lo n:Nat) (xs aC:List α):List α:=xs.take lo++aC.take n++xs.drop (lo+(aC.take n).length)
def EV (c:BC) (lo n:Nat) (d:D):Option (BC×Nat):=
 match c,d with
 | .ints k xs,.ints cX aC=>if cX=k∧lo+n≤xs.length then some (.ints k (over lo n xs aC),min aC.length n)else none
 | .flts xs,.flts aC=>if lo+n≤xs.length then some (.flts (over lo n xs aC),min aC.length n)else none
 | .recs sz xs,.recs Dl aC=>if Dl=sz∧lo+n≤xs.length∧Em aC=true then some (.recs sz (over lo n xs aC),min aC.length n)else none
 |_,_=>none
def BC.count:BC→Nat
 | .cells cs=>cs.length
 | .ints _ xs=>xs.length
 | .flts xs=>xs.length
 | .recs _ xs=>xs.length
 | .map _ es=>es.length
def b1:Nat:=4294967296
def iD (σ:St):List Nat→List BC→St
 |i::r,c::cs=>match σ.aA i with
  |some b=>iD (σ.ea i ⟨b.cx,b.ext,c⟩) r cs
  |none=>iD σ r cs
 |_,_=>σ
def Be (n i:Nat):Bool:=decide (bF≤i) && decide (i<bF+n)
def yn (C:gu) (dst:Option Nat) (σ:St) (K:St→Prop) (vs:List ag) (is:List Nat):Prop:=
 match contents σ (fun i=>is.contains i) is with
 |some OS=>let a4:=ag.g1 (fun i=>bF+placeOf is i) vs
  let cs:=OS.map (BC.eh fun i=>bF+placeOf is i)
  C.pre a4 cs∧(C.out a4 cs).length=is.length∧(C.out a4 cs).all (BC.tidy (Be is.length))=true∧
    K ((iD σ is ((C.out a4 cs).map (BC.eh fun i=>is.getD (i - bF) 0))).put dst (c3 (C.res a4 cs)))
 |none=>False
def sl (C:gu) (dst:Option Nat) (σ:St) (K:St→Prop) (vs:List ag):Prop:=yn C dst σ K vs (reach σ (reach σ (distinct (ag.jb vs))))
def D.emp:D→Bool
 | .ints _ []| .flts []| .recs _ []=>true
 |_=>false
def D.NQ:D→Bool
 | .ints _ _| .flts _=>true
 |_=>false
def jr:D→Option (BC×Nat)
 | .ints k xs=>some (.ints k xs,xs.length)
 | .flts xs=>some (.flts xs,xs.length)
 |_=>none
def va (C:br) (dst:Option Nat) (σ:St) (K:St→Prop) (vs:List ag):Prop:=
 match toDs σ vs with
 |some ds=>C.pre ds∧(if C.own=true then match dst,jr (C.res ds)with
  |some i,some (c,n)=>K ((σ.fresh i ⟨false,false,c⟩).put (some i) (.own i 0 n))
  |_,_=>False
  else if ((C.res ds).flat||ag.g8 vs)=true then K (σ.put dst (c3 (C.res ds)))
  else q6 σ vs=true∧K ((l6 σ vs).put dst (c3 (C.res ds))))
 |none=>False
def pS (Γ:Env) (dst:Option Nat) (σ:St) (K:St→Prop) (f:Nat) (vs:List ag):Prop:=
 match Γ.mt f,Γ.fn f with
 |some C,_=>sl C dst σ K vs
 |none,some C=>va C dst σ K vs
 |none,none=>False
def zG (σ:St) (j:Nat):List dM→St
 |[]=>σ
 |ek::r=>zG (σ.fresh j ⟨false,false,lV ek⟩) (j+100000) r
def yB (j:Nat):List dM→List ag
 |[]=>[]
 |_::r=> .own j 0 0::yB (j+100000) r
def cG (Γ:Env) (dst:Option Nat) (σ:St) (K:St→Prop) (o:bx):Prop:=
 match o with
 | .alloc zero=>match dst with
   |some i=>K ((σ.fresh i ⟨false,false,.cells (zero.map .d)⟩).put dst (.box i 0))
   |none=>False
 | .box x=>match dst with
   |some i=>(σ.aU x).has i=false∧(σ.aU x).cells.all ag.dV=true∧K ((σ.fresh i ⟨false,false,.cells (σ.aU x).cells⟩).put dst (.box i 0))
   |none=>False
 | .rJ ek zero n=>match dst,σ.aU n with
   |some i,.d (.int _ n)=>match tu ek zero n.toNat with
    |some c=>0≤n∧n≤b1∧K ((σ.fresh i ⟨false,false,c⟩).put dst (.own i 0 n.toNat))
    |none=>False
   |_,_=>False
 | .nil ek=>match dst with
   |some i=>K ((σ.fresh i ⟨false,false,lV ek⟩).put dst (.own i 0 0))
   |none=>False
 | .store n a x=>match σ.aU a with
   | .box i off=>match σ.aA i with
     |some ⟨false,e,c⟩=>(σ.aU x).cells.length=n∧(σ.aU x).cells.all ag.dV=true∧match tv c off (σ.aU x).cells with
      |some c=>K ((σ.ea i ⟨false,e,c⟩).put dst .dB)
      |none=>False
     |_=>False
   | .eo i j off=>match σ.aA i with
     |some ⟨false,e,c⟩=>(σ.aU x).cells.length=n∧(σ.aU x).cells.all ag.dV=true∧match u2 c j off (σ.aU x).cells with
      |some c=>K ((σ.ea i ⟨false,e,c⟩).put dst .dB)
      |none=>False
     |_=>False
   |_=>False
 | .app ek x y=>match σ.aU x with
   | .own i lo n=>match σ.aA i,toD σ (σ.aU y)with
     |some ⟨false,false,c⟩,some d=>match E9 c d with
      |some c'=>p2 (σ.aA i)=some ek.sz∧lo=0∧n=c.count∧c'.count≤b1∧K (((σ.forget i).ea i ⟨false,false,c'⟩).put dst (.own i 0 c'.count))
      |none=>False
     |_,_=>False
   |_=>False
 | .copy ek x y=>match σ.aU x with
   | .own i lo n=>match σ.aA i,toD σ (σ.aU y)with
     |some ⟨false,e,c⟩,some d=>match EV c lo n d with
      |some (c',m)=>p2 (σ.aA i)=some ek.sz∧K ((σ.ea i ⟨false,e,c'⟩).put dst (.d (.int .i64 m)))
      |none=>False
     |_,_=>False
   |_=>False
 | .call f args=>pS Γ dst σ K f (cr σ args)
 | .hJ x args=>match σ.aU x with
   | .d (.fn f fst cap)=>pS Γ dst σ K f (fst.map c3++cr σ args++cap.map c3)
   | .dk f fst cap=>pS Γ dst σ K f (fst++cr σ args++cap)
   |_=>False
 | .Bc x=>match toD σ (σ.aU x)with
   |some d=>d.NQ=true∧∀b:Bool,(b=true→d.emp=true)→K (σ.put dst (.d (.bool b)))
   |none=>False
 | .sj x=>match σ.aU x with
   | .d (.flt b)=>∀y:Nat,eL y=b→K (σ.put dst (.d (.int .u64 y)))
   |_=>False
 | .q0 n=>match dst with
   |some i=>K ((σ.fresh i ⟨false,false,.map n []⟩).put dst (.mp i))
   |none=>False
 | .yk ks=>match dst with
   |some i=>K (((zG σ (i+500000) ks).fresh i ⟨false,false,.cells (yB (i+500000) ks)⟩).put dst (.box i 0))
   |none=>False
 | .yt n m k x=>match σ.aU m,(σ.aU k).key with
   | .mp i,some k=>match σ.aA i,toD σ (σ.aU x)with
     |some ⟨false,e,.map kZ es⟩,some d=>kZ=n∧k.length=n∧(σ.aU x).pure=true∧K ((σ.ea i ⟨false,e,.map n (qW es k d)⟩).put dst .dB)
     |_,_=>False
   |_,_=>False
 | .sq kQ x args=>match σ.aU x with
   | .d (.ifc t d)=>match u9 kQ t with
     |some (f,kq)=>match tC kq d with
      |some r=>pS Γ dst σ K f (c3 r::cr σ args)
      |none=>False
     |none=>False
   |_=>False
 |o=>bf Γ σ (fun v=>K (σ.put dst v)) o
def guarded (σ:St) (g:Option (Nat×Bool)) (yes no:Prop):Prop:=
 match g with
 |none=>yes
 |some (t,w)=>match σ.af t with
  | .d (.bool b)=>(b=w→yes)∧(b=(!w)→no)
  | .dB=>no
  |_=>False
def bx.ops:bx→List bk
 | .Bc x| .yj _ x| .BK _ x| .sj x| .oT x| .bg x| .load _ _ x| .zH x| .un _ x| .conv _ x| .ys x| .fM _ x| .BI _ _ _ x| .l5 _ x| .len x| .box x| .rJ _ _ x=>[x]
 | .pick c a b=>[c,a,b]
 | .bin _ x y| .q5 _ x y| .yQ _ x y| .yR _ _ x y| .Bo _ _ _ x y| .iE _ x y| .Bb _ _ x y| .idx _ _ _ x y| .po x y| .Cd x y| .store _ x y| .app _ x y| .copy _ x y=>[x,y]
 | .BJ _ x lo hi=>x::(lo.toList++hi.toList)
 | .build _ ps=>ps.map (·.2.2)
 | .rI _ ps=>ps
 | .Bn _ a b=>a++b
 | .call _ bm=>bm
 | .hJ x bm=>x::bm
 | .sq _ x bm=>x::bm
 | .yt _ m k x=>[m,k,x]
 | .alloc _| .nil _| .q0 _| .yk _| .bad=>[]
def bx.makes:bx→Bool
 | .alloc _| .box _| .rJ _ _ _| .nil _| .q0 _=>true
 |_=>false
def pT (σ:St):List (bW×List Nat)→St
 |[]=>σ
 |o::r=>pT (match o.1.op.makes,o.1.dst with
  |true,some i=>⟨fun t=>(σ.af t).kill i,fun j=>if j=i then none else (σ.aA j).map (cm.kill i)⟩
  |_,_=>σ) r
def Ez (cl:List Nat) (vs:List ag):Bool:=cl.all fun i=> !ag.df i vs
def made (σ:St) (o:bx) (K:ag→cm→Prop) (i:Nat):Prop:=
 match o with
 | .alloc zero=>K (.box i 0) ⟨false,false,.cells (zero.map .d)⟩
 | .box x=>(σ.aU x).cells.all ag.dV=true∧K (.box i 0) ⟨false,false,.cells (σ.aU x).cells⟩
 | .rJ ek zero n=>match σ.aU n with
   | .d (.int _ n)=>match tu ek zero n.toNat with
     |some c=>0≤n∧n≤b1∧K (.own i 0 n.toNat) ⟨false,false,c⟩
     |none=>False
   |_=>False
 | .nil ek=>K (.own i 0 0) ⟨false,false,lV ek⟩
 | .q0 n=>K (.mp i) ⟨false,false,.map n []⟩
 |_=>False
def stored (σ:St) (n:Nat) (a x:bk) (K:Nat→cm→Prop):Prop:=
 match a,σ.aU a with
 | .t p,.box i off=>i=p∧match σ.aA i with
   |some ⟨false,e,c⟩=>(σ.aU x).cells.length=n∧(σ.aU x).cells.all ag.dV=true∧match tv c off (σ.aU x).cells with
    |some c=>K i ⟨false,e,c⟩
    |none=>False
   |_=>False
 |_,_=>False
def yc (σ:St) (n:Nat) (a x:bk) (K:Nat→cm→Prop):Prop:=
 match σ.aU a with
 | .box i off=>match σ.aA i with
   |some ⟨false,e,c⟩=>(σ.aU x).cells.length=n∧(σ.aU x).cells.all ag.dV=true∧match tv c off (σ.aU x).cells with
    |some c=>K i ⟨false,e,c⟩
    |none=>False
   |_=>False
 | .eo i j off=>match σ.aA i with
   |some ⟨false,e,c⟩=>(σ.aU x).cells.length=n∧(σ.aU x).cells.all ag.dV=true∧match u2 c j off (σ.aU x).cells with
    |some c=>K i ⟨false,e,c⟩
    |none=>False
   |_=>False
 |_=>False
def uX (cl:List Nat) (σ:St) (n:Nat) (a x:bk) (K:Nat→cm→Prop):Prop:=
 match cl with
 |[]=>yc σ n a x K
 |_::_=>stored σ n a x K
def Jl (d:Option Nat) (K:Nat→Prop):Prop:=match d with
 |some i=>K i
 |none=>False
def tH (Γ:Env) (dst:Option Nat) (op:bx) (σ:St) (K:St→Prop):Prop:=
 if op.makes=true then Jl dst fun i=>σ.aA i=none∧made σ op (fun v b=>K ((σ.ea i b).put (some i) v)) i else bf Γ σ (fun v=>K (σ.put dst v)) op
def Bf (Γ:Env) (dst:Option Nat) (cl:List Nat) (σ:St) (K:St→Prop) (f:Nat) (bm:List bk):Prop:=
 match cl,Γ.mt f with
 |[],some C=>sl C dst σ K (cr σ bm)
 |_,_=>tH Γ dst (.call f bm) σ K
def vH (Γ:Env) (o:bW) (cl:List Nat) (σ:St) (K:St→Prop):Prop:=
 Ez cl (cr σ o.op.ops)=true∧
 match o.op with
 | .store n a x=>o.dst=none∧uX cl σ n a x fun i b=>K (σ.ea i b)
 | .call f bm=>Bf Γ o.dst cl σ K f bm
 |op=>tH Γ o.dst op σ K
def di (Γ:Env) (K:St→Prop):List (bW×List Nat)→St→Prop
 |[],σ=>K σ
 |o::r,σ=>guarded σ o.1.guard (vH Γ o.1 o.2 σ (di Γ K r)) (di Γ K r (σ.put o.1.dst .dB))
def hc (Γ:Env) (K:St→Prop):List bW→St→Prop
 |[],σ=>K σ
 |o::r,σ=>guarded σ o.guard (cG Γ o.dst σ (hc Γ K r) o.op) (hc Γ K r (σ.put o.dst .dB))
inductive fi where
 |normal
 |exit (id:Nat)
 |ret
def CN (body:(fi→St→Prop)→St→Prop) (Q:fi→St→Prop) (σ:St):Prop:=
 ∃(I:St→Prop) (eT:St→Nat),I σ∧∀s,I s→body (fun e ef=>match e with| .normal=>I ef∧eT ef<eT s|e=>Q e ef) s
def cb (Γ:Env):a3→(fi→St→Prop)→St→Prop
 | .skip,Q,σ=>Q .normal σ
 | .cC ops,Q,σ=>hc Γ (Q .normal) ops σ
 | .oW pre yS,Q,σ=>di Γ (hc Γ (Q .normal) yS) pre (pT σ pre)
 | .seq a b,Q,σ=>cb Γ a (fun e s=>match e with| .normal=>cb Γ b Q s|e=>Q e s) σ
 | .cond c a b,Q,σ=>match σ.aU c with
   | .d (.bool t)=>(t=true→cb Γ a Q σ)∧(t=false→cb Γ b Q σ)
   |_=>False
 | .block id a,Q,σ=>cb Γ a (fun e s=>match e with| .exit j=>if j=id then Q .normal s else Q (.exit j) s|e=>Q e s) σ
 | .loop a,Q,σ=>CN (cb Γ a) Q σ
 | .exit id,Q,σ=>Q (.exit id) σ
 | .ret,Q,σ=>Q .ret σ
def Ju (σ:St):bo→Option ag
 | .tmp t=>some (σ.af t)
 | .cell t n g=>match σ.af t with
   | .box i off=>match σ.aA i with
     |some ⟨_,_,.cells cs⟩=>if g then (if off+n≤cs.length then some (.agg ((cs.drop off).take n))else none)else cs[off]?
     |_=>none
   |_=>none
def yu (σ:St):List bo→Option (List ag)
 |[]=>some []
 |r::rs=>match Ju σ r,yu σ rs with
  |some v,some vs=>some (v::vs)
  |_,_=>none
def CX:List D→D
 |[d]=>d
 |ds=> .du ds
def kJ (rs:List bo) (σ:St) (K:D→Prop):Prop:=
 match yu σ rs with
 |some vs=>q6 σ vs=true∧match toDs σ vs with
  |some ds=>K (CX ds)
  |none=>False
 |none=>False
def uo (args:List D):St:=⟨fun t=>match args[t]? with|some d=>c3 d|none=> .dB,fun _=>none⟩
def bK (Γ:Env) (l:a3) (rs:List bo) (args:List D) (K:D→Prop):Prop:=
 cb Γ l (fun e σ=>match e with| .exit _=>False|_=>kJ rs σ K) (uo args)
def Jv (rs:List bo) (σ:St) (K:D→Prop):Prop:=
 match rs with
 |[.tmp t]=>match σ.af t with
  | .own i lo n=>match σ.aA i with
    |some ⟨false,false,.ints k xs⟩=>lo=0∧xs.length=n∧K (.ints k xs)
    |some ⟨false,false,.flts xs⟩=>lo=0∧xs.length=n∧K (.flts xs)
    |_=>False
  |_=>False
 |_=>False
def Fa (Γ:Env) (l:a3) (rs:List bo) (args:List D) (K:D→Prop):Prop:=
 cb Γ l (fun e σ=>match e with| .exit _=>False|_=>Jv rs σ K) (uo args)
def yC (bm:List ag) (cs:List BC):St:=
 ⟨fun t=>match bm[t]? with|some v=>v|none=> .dB,fun i=>if bF≤i then (cs[i - bF]?).map (fun c=>⟨false,true,c⟩)else none⟩
def yo (σ:St) (m k:Nat):Nat→Option (List BC)
 |0=>some []
 |n+1=>match σ.aA (bF+k),yo σ m (k+1) n with
  |some ⟨_,true,c⟩,some r=>if c.tidy (Be m)=true then some (c::r)else none
  |_,_=>none
def l7 (Γ:Env) (l:a3) (rs:List bo) (bm:List ag) (cs:List BC) (K:D→List BC→Prop):Prop:=
 cb Γ l (fun e σ=>match e with
  | .exit _=>False
  |_=>kJ rs σ fun d=>match yo σ cs.length 0 cs.length with
   |some cs'=>K d cs'
   |none=>False) (yC bm cs)
def p3 (P:Program) (t:TypeId):Option (Nat×Bool):=
 match P.underlying t,P.info? t with
 |some (.struct _),some i=>some (i.size,true)
 |some (.array _ _),some i=>some (i.size,true)
 |some _,some i=>if i.size=1 then some (1,false)else none
 |_,_=>none
def g9 (P:Program) (t:TypeId):Option Nat:=(P.info? t).map (·.size)
def sd (P:Program) (e:TypeId):Option dM:=
 match P.underlying e,g9 P e with
 |some (.int k),some 1=>some (.ints k)
 |some (.float .f64),some 1=>some .flts
 |some (.int _),_=>none
 |some (.float _),_=>none
 |some _,some (n+1)=>some (.recs (n+1))
 |_,_=>none
def sF (P:Program) (t:TypeId):Option dM:=
 match P.underlying t with
 |some (.slice e)=>sd P e
 |_=>none
def dM.empty:dM→D
 | .ints k=> .ints k []
 | .flts=> .flts []
 | .recs sz=> .recs sz []
def I1 (P:Program) (t:TypeId):Value→Option D
 | .bool b=>some (.bool b)
 | .int k n=>some (.int k n)
 | .float .f64 b=>if (Ieee.double.read b).isNaN then none else some (.flt b)
 | .slice none 0 0=>(sF P t).map dM.empty
 | .nilFunc=>some .nilfn
 | .pointer none=>some .nilp
 | .nilIface=>some .nili
 | .map none=>some .nilm
 |_=>none
def Nx (P:Program):Nat→TypeId→Option (List TypeId)
 |0,_=>none
 |n+1,t=>match P.underlying t with
  |some (.struct fs)=>fs.toList.foldr (fun f r=>match Nx P n f.type,r with|some a,some b=>some (a++b)|_,_=>none) (some [])
  |some (.array len e)=>match Nx P n e with
   |some a=>some ((List.replicate len a).flatten)
   |none=>none
  |some _=>some [t]
  |none=>none
def zz (P:Program):List TypeId→List Value→Option (List D)
 |[],[]=>some []
 |t::c1,v::vs=>match I1 P t v,zz P c1 vs with
  |some d,some ds=>some (d::ds)
  |_,_=>none
 |_,_=>none
def A4 (P:Program) (t:TypeId):Option (List D):=
 match (P.info? t).bind (·.zero),Nx P 10 t with
 |some z,some c1=>zz P c1 z.cells.toList
 |_,_=>none
def k4 (P:Program) (t:TypeId):Operand→Option bk
 | .tmp n=>some (.t n)
 | .func f=>some (.c (.fn f [] []))
 | .const (.agg cs)=>match Nx P 10 t with
   |some c1=>(zz P c1 cs.toList).map (fun ds=> .c (.agg ds))
   |none=>none
 | .const v=>(I1 P t v).map .c
 | .global _=>none
def iX (P:Program):List TypeId→List Operand→Option (List bk)
 |_,[]=>some []
 |t::c1,x::xs=>match k4 P t x,iX P c1 xs with
  |some v,some vs=>some (v::vs)
  |_,_=>none
 |[],_=>none
def dA (P:Program) (x:Operand):Option bk:=
 match x with
 | .const (.slice ..)| .const (.agg _)=>none
 |x=>k4 P 0 x
def AO (P:Program) (pl:List (Nat×Nat×TypeId)):List (Nat×Operand)→Option (List (Nat×Nat×bk))
 |[]=>some []
 |(i,x)::r=>match pl[i]?,AO P pl r with
  |some (off,size,t),some ps=>match k4 P t x with
   |some v=>some ((off,size,v)::ps)
   |none=>none
  |_,_=>none
def IB (P:Program) (fs:List Field):Option (List (Nat×Nat×TypeId)):=
 match fs with
 |[]=>some []
 |f::r=>match g9 P f.type,IB P r with
  |some n,some ps=>some ((f.offset,n,f.type)::ps)
  |_,_=>none
def M8:Operand→Operand→Bool
 | .tmp a,.tmp b=>a==b
 | .const (.int j a),.const (.int k b)=>j==k && a==b
 |_,_=>false
def EA (n:Nat):List (Nat×Operand)→Nat→Bool
 |[],i=>i==n
 |(j,_)::r,i=>j==i && EA n r (i+1)
def Iq (P:Program) (t:TypeId):Bool:=match P.underlying t with|some (.slice _)=>true|_=>false
def pF (P:Program) (ty:TypeId) (x:Operand):Option bx:=
 match x with
 | .const (.slice none 0 0)=>(sF P ty).map .nil
 |x=>(k4 P ty x).map .bg
def pU (P:Program) (ty:TypeId) (c a b:Operand):Option bx:=
 match dA P c,k4 P ty a,k4 P ty b with
 |some c,some a,some b=>some (.pick c a b)
 |_,_,_=>none
def pV (P:Program) (t:TypeId) (x:Operand):Option bx:=
 match dA P x,p3 P t with
 |some x,some (n,g)=>some (.load n g x)
 |_,_=>none
def qX (P:Program) (t:TypeId) (a x:Operand):Option bx:=
 match dA P a,k4 P t x,g9 P t with
 |some a,some x,some n=>some (.store n a x)
 |_,_,_=>none
def oX (P:Program) (t:TypeId):Bool:=match P.underlying t with
 |some (.int .i64)=>true
 |_=>false
def yv (P:Program) (t:TypeId):Bool:=match P.underlying t with
 |some (.struct fs)=>match fs.toList with
  |[f,g]=>f.name != "_" && g.name != "_" && f.offset==0 && g.offset==1 && oX P f.type && oX P g.type && !P.stoodInHeld t && !P.eqGuardType P.depth t
  |_=>false
 |_=>false
def Jw (P:Program) (t:TypeId):Option Nat:=match P.underlying t with
 |some (.array len e)=>if oX P e && !P.eqGuardType P.depth t && g9 P e==some 1 then some len else none
 |_=>none
def I2 (P:Program) (t:TypeId):Bool:=match P.underlying t with
 |some (.interface _)=>true
 |_=>false
def S1:Operand→Bool
 | .const .nilIface=>true
 |_=>false
def p4 (P:Program) (op:BinOp) (t:TypeId) (x y:Operand):Option bx:=
 if S1 y && I2 P t then match op,dA P x with
  | .eql,some x=>some (.yj false x)
  | .neq,some x=>some (.yj true x)
  |_,_=>none
 else
 match dA P x,dA P y with
 |some x,some y=>match P.underlying t,op with
  |some .bool,.eql=>some (.q5 false x y)
  |some .bool,.neq=>some (.q5 true x y)
  |some (.int _),op=>some (.bin op x y)
  |some (.float .f64),op=>some (.bin op x y)
  |_,.eql=>if yv P t=true then some (.yQ false x y)else (Jw P t).map fun n=> .yR false n x y
  |_,.neq=>if yv P t=true then some (.yQ true x y)else (Jw P t).map fun n=> .yR true n x y
  |_,_=>none
 |some x,none=>match op,y,P.underlying t with
  | .eql,.const (.slice none 0 0),some (.slice _)=>some (.Bc x)
  |_,_,_=>none
 |_,_=>none
def pW (P:Program) (s t:TypeId) (x:Operand):Option bx:=
 match dA P x,P.underlying s,P.underlying t with
 |some x,some (.int _),some (.int k)=>some (.conv k x)
 |some x,some (.int _),some (.float .f64)=>some (.ys x)
 |some x,some (.float .f64),some (.float .f64)=>some (.ys x)
 |some _,some (.float _),some (.int _)=>some .bad
 |_,_,_=>none
def pJ (P:Program) (s:TypeId) (x:Operand) (f:Nat):Option bx:=
 match P.underlying s,dA P x with
 |some (.struct fs),some x=>match fs[f]? with
  |some f=>match g9 P f.type with
   |some (_+1)=>some (.fM f.offset x)
   |_=>none
  |none=>none
 |_,_=>none
def pK (P:Program) (s:TypeId) (x:Operand) (f:Nat):Option bx:=
 match P.underlying s,dA P x with
 |some (.struct fs),some x=>match fs[f]? with
  |some f=>match p3 P f.type with
   |some (n,g)=>some (.BI f.offset n g x)
   |_=>none
  |none=>none
 |_,_=>none
def pL (P:Program) (t:TypeId) (x i:Operand):Option bx:=
 match P.underlying t,dA P x,dA P i with
 |some (.slice e),some x,some i=>(g9 P e).map fun n=> .iE n x i
 |some (.array len e),some x,some i=>(g9 P e).map fun n=> .Bb len n x i
 |_,_,_=>none
def pM (P:Program) (t:TypeId) (x i:Operand):Option bx:=
 match P.underlying t,dA P x,dA P i with
 |some (.array len e),some x,some i=>match p3 P e with
  |some (n,g)=>some (.idx len n g x i)
  |none=>none
 |_,_,_=>none
def pX (P:Program) (f:Nat) (fst cap:Array Operand):Option bx:=
 match iX P (fst.toList.map fun _=>0) fst.toList,iX P (cap.toList.map fun _=>0) cap.toList with
 |some a,some b=>some (.Bn f a b)
 |_,_=>none
def CG (P:Program) (e:TypeId):Bool:=match P.info? e with
 |some i=>decide (i.bytes≤4096)
 |none=>false
def q2 (P:Program) (t:TypeId) (l c:Operand):Option bx:=
 match P.underlying t,dA P l with
 |some (.slice e),some n=>match sd P e,A4 P e with
  |some ek,some z=>if M8 l c && CG P e then some (.rJ ek z n)else none
  |_,_=>none
 |_,_=>none
def RK (P:Program):Option Operand→Option (Option bk)
 |none=>some none
 |some x=>(dA P x).map some
def pN (P:Program) (t:TypeId) (x:Operand) (lo hi po:Option Operand):Option bx:=
 match P.underlying t,dA P x,po with
 |some (.slice e),some x,none=>match g9 P e,RK P lo,RK P hi with
  |some n,some lo,some hi=>some (.BJ n x lo hi)
  |_,_,_=>none
 |_,_,_=>none
def pO (P:Program) (t:TypeId) (parts:Array (Nat×Operand)):Option bx:=
 match P.underlying t,A4 P t with
 |some (.struct fs),some z=>match IB P fs.toList with
  |some pl=>(AO P pl parts.toList).map (.build z)
  |none=>none
 |some (.array len e),some z=>match g9 P e with
  |some n=>(AO P ((List.range len).map fun i=>(i*n,n,e)) parts.toList).map (.build z)
  |none=>none
 |_,_=>none
def p5 (P:Program) (t:TypeId) (len:Nat) (parts:Array (Nat×Operand)):Option bx:=
 match P.underlying t with
 |some (.slice e)=>match sd P e with
  |some ek=>if ((P.info? e).bind (·.zero)).isSome then
   if len=0 then (if parts.toList.isEmpty then some (.nil ek)else none)
   else if EA len parts.toList 0 && decide (len*ek.sz≤16777216)then (iX P (parts.toList.map fun _=>e) (parts.toList.map (·.2))).map (.rI ek)else none
   else none
  |none=>none
 |_=>none
def Jm (P:Program) (t:TypeId):Bool:=match P.underlying t with
 |some (.slice e)=>CG P e && (match P.info? e with|some i=>(match i.zero with|some z=>z.cells.size==i.size|none=>false)|none=>false)
 |_=>false
def pD (P:Program) (b:Builtin) (args:List Operand) (c1:List TypeId):Option bx:=
 match b,args,c1 with
 | .len,[x],[t]=>if Iq P t then (dA P x).map .len else none
 | .max,[x,y],_=>match dA P x,dA P y with
   |some x,some y=>some (.po x y)
   |_,_=>none
 | .min,[x,y],_=>match dA P x,dA P y with
   |some x,some y=>some (.Cd x y)
   |_,_=>none
 | .append,[x,y],[t,u]=>match sF P t,dA P x,dA P y with
   |some ek,some x,some y=>if Iq P u && Jm P t then some (.app ek x y)else none
   |_,_,_=>none
 | .copy,[x,y],[t,u]=>match sF P t,dA P x,dA P y with
   |some ek,some x,some y=>if Iq P u then some (.copy ek x y)else none
   |_,_,_=>none
 |_,_,_=>none
def tI (P:Program) (f:Nat):Option String:=match P.funcs[f]? with
 |some fn=>if fn.body.isNone && fn.origin== "" then some fn.name else none
 |none=>none
def Bq (n:String) (bm:List bk):Option bx:=
 match bm with
 |[x]=>if n== "math.Float64bits" then some (.sj x)else if n== "math.Float64frombits" then some (.oT x)else none
 |_=>none
def rowOf (P:Program) (t:TypeId) (name:String):Option (Nat×Option (Nat×Nat×Bool)):=
 match P.info? t,P.underlying t with
 |some i,some u=>match u with
  | .pointer _=>none
  | .interface _=>none
  |_=>match i.methods.find? (·.name==name)with
   |some m=>match m.func with
    |some (f,false)=>match m.path.toList with
     |[]=>some (f,none)
     |[s]=>if s.deref||s.struct !=t then none else match u with
      | .struct fs=>match fs[s.index]? with
        |some fd=>match P.underlying fd.type with
         |some (.pointer _)=>none
         |some (.interface _)=>none
         |some _=>match p3 P fd.type with
          |some (n,g)=>some (f,some (fd.offset,n,g))
          |none=>none
         |none=>none
        |none=>none
      |_=>none
     |_=>none
    |_=>none
   |none=>none
 |_,_=>none
def rowsOf (P:Program) (name:String):List (Nat×Nat×Option (Nat×Nat×Bool)):=
 (List.range P.types.size).filterMap fun t=>(rowOf P t name).map fun r=>(t,r)
def l0 (P:Program) (c:Call):Option bx:=
 match c.callee with
 | .builtin b=>pD P b c.args.toList c.argTypes.toList
 | .value (.func f)=>match tI P f with
   |some n=>(iX P c.argTypes.toList c.args.toList).bind (Bq n)
   |none=>(iX P c.argTypes.toList c.args.toList).map (.call f)
 | .value x=>match dA P x,iX P c.argTypes.toList c.args.toList with
   |some x,some bm=>some (.hJ x bm)
   |_,_=>none
 | .invoke r name=>match dA P r,iX P c.argTypes.toList c.args.toList with
   |some x,some bm=>some (.sq (rowsOf P name) x bm)
   |_,_=>none
def Br (P:Program) (t:TypeId):Option (Nat×TypeId):=match P.underlying t with
 |some (.map k e)=>if oX P k then some (1,e)else if yv P k then some (2,e)else none
 |_=>none
def pP (P:Program) (t:TypeId) (r:Option Operand):Option bx:=
 match Br P t,r with
 |some e,none=>some (.q0 e.1)
 |some e,some (.const (.int _ _))=>some (.q0 e.1)
 |_,_=>none
def SG (P:Program) (e:TypeId):Option D:=match A4 P e,(P.info? e).bind (·.zero)with
 |some ds,some (.agg _)=>some (.agg ds)
 |some [d],some _=>some d
 |_,_=>none
def pY (P:Program) (t:TypeId) (m k:Operand) (ok:Bool):Option bx:=
 match Br P t,dA P m,dA P k with
 |some e,some m,some k=>(SG P e.2).map fun z=> .Bo e.1 ok z m k
 |_,_,_=>none
def k5 (P:Program) (t:TypeId) (m k x:Operand):Option bx:=
 match Br P t,dA P m,dA P k with
 |some e,some m,some k=>(k4 P e.2 x).map fun x=> .yt e.1 m k x
 |_,_,_=>none
def p6 (P:Program) (t:TypeId) (x:Operand):Option bx:=
 if I2 P t then some .bad else match P.underlying t,k4 P t x with
  |some _,some x=>some (.BK t x)
  |_,_=>some .bad
def YP (P:Program):List Field→Option (List dM)
 |[]=>some []
 |f::r=>match P.underlying f.type with
  |some (.slice t)=>match sd P t,YP P r with
   |some ek,some auk=>some (ek::auk)
   |_,_=>none
  |_=>none
def Cz:List Value→List dM→Bool
 |[],[]=>true
 | .slice none 0 0::r,_::s=>Cz r s
 |_,_=>false
def SH (P:Program) (e:TypeId):Option (List dM):=
 match P.underlying e with
 |some (.struct fs)=>match YP P fs.toList,(P.info? e).bind (·.zero)with
  |some ks,some z=>if Cz z.cells.toList ks then some ks else none
  |_,_=>none
 |_=>none
def cS (P:Program) (ty:TypeId):Op→Option bx
 | .assign x=>pF P ty x
 | .move x=>(k4 P ty x).map .bg
 | .pick c a b=>pU P ty c a b
 | .alloc e=>match SH P e with
   |some ks=>some (.yk ks)
   |none=>(A4 P e).map .alloc
 | .box e x=>(k4 P e x).map .box
 | .load t x=>pV P t x
 | .store t a x=>qX P t a x
 | .nilCheck x=>(dA P x).map .zH
 | .binOp op t x y _=>p4 P op t x y
 | .unOp op _ x=>(dA P x).map (.un op)
 | .convert s t x=>pW P s t x
 | .fieldAddr s x f=>pJ P s x f
 | .field s x f=>pK P s x f
 | .indexAddr t x i=>pL P t x i
 | .index t x i=>pM P t x i
 | .extract x i=>(dA P x).map (.l5 i)
 | .makeFunc (.func f) fst cap=>pX P f fst cap
 | .makeSlice t l c=>q2 P t l c
 | .slice t x lo hi po=>pN P t x lo hi po
 | .build t parts=>pO P t parts
 | .buildSlice t len parts=>p5 P t len parts
 | .call c=>l0 P c
 | .makeMap t r=>pP P t r
 | .lookup t m k ok=>pY P t m k ok
 | .mapUpdate t m k x=>k5 P t m k x
 | .insert t m k x=>k5 P t m k x
 | .makeInterface t x=>p6 P t x
 | .panic _=>some .bad
 |_=>none
def hK (N:Nat) (d:Option Nat):Bool:=match d with|some d=>decide (d<N)|none=>true
def I3 (ops:Array Oper) (g:Option (Nat×Bool)):Option (Option (Nat×Bool)):=
 match g with
 |none=>some none
 |some (j,w)=>match (ops[j]?).bind (·.dst)with
  |some d=>some (some (d,w))
  |none=>none
def se (P:Program) (N:Nat) (ops:Array Oper) (o:Oper):Option bW:=
 match cS P o.type o.op,I3 ops o.guard with
 |some op,some g=>if hK N o.dst then some ⟨o.dst,op,g⟩else none
 |_,_=>none
def zA (P:Program) (N:Nat) (ops:Array Oper):List Oper→Option (List bW)
 |[]=>some []
 |o::r=>match se P N ops o,zA P N ops r with
  |some a,some b=>some (a::b)
  |_,_=>none
def En (b:Array Nat) (j:Nat):Bool:=(List.range j).all fun i=>(b.getD j 0).testBit i
def jQ (b:Array Nat):Nat→Nat
 |0=>0
 |j+1=>if En b j then jQ b j+1 else 0
def bW.writes (o:bW):List Nat:=
 match o.op,o.dst with
 | .store _ (.t p) _,_=>[p]
 |op,some i=>if op.makes then [i]else []
 |_,_=>[]
def bW.q3 (o:bW):List Nat:=
 o.dst.toList++((o.op.ops.filterMap fun| .t n=>some n|_=>none)++(match o.guard with|some (g,_)=>[g]|none=>[]))
def ordered (b:Array Nat) (i j:Nat):Bool:=(b.getD (max i j) 0).testBit (min i j)
def bW.kh (o:bW):Bool:=match o.op with| .bg _=>true|_=>false
def bW.CH (o:bW):Bool:=match o.op with| .store _ _ _| .call _ _=>true|_=>false
def Bs (b:Array Nat) (l:List bW) (i:Nat):List Nat:=
 ((l.zipIdx.filter fun(_,j)=>j !=i && !ordered b i j).flatMap fun(o,_)=>o.writes)++
 (if ((l[i]?).map bW.CH).getD false && (l.zipIdx.any fun(o,j)=>j !=i && !ordered b i j && !o.kh)then [88888888]else [])
def Sj (x y:bW):Bool:=
 (match x.dst with|some d=> !y.q3.contains d|none=>true) && (match y.dst with|some d=> !x.q3.contains d|none=>true) &&
 (x.kh||y.kh||x.writes.all fun d=> !y.writes.contains d)
def Ir (b:Array Nat) (l:List bW):Bool:=
 l.zipIdx.all fun(x,i)=>l.zipIdx.all fun(y,j)=>decide (j≤i)||ordered b i j||Sj x y
def arH (o:bW):Bool:=match o.op with
 | .app .. | .copy .. =>false
 |_=>true
def EJ (b:Array Nat) (l:List bW):List (bW×List Nat):=l.zipIdx.map fun(o,i)=>(o,Bs b l i)
def EB (ops:Array Oper):Bool:=ops.toList.zipIdx.all fun(o,i)=>o.after.all fun e=> !Region.binds .any e||decide (e.on<i)
def er (P:Program) (N:Nat):Code→Option a3
 | .skip=>some .skip
 | .region _ ops false=>(zA P N ops ops.toList).map .cC
 | .region _ ops true=>match zA P N ops ops.toList with
   |some l=>let b:=Region.before ops
    let p:=ops.size - jQ b ops.size
    if (l.take p).all arH && Ir b (l.take p) && EB ops then some (.oW (EJ b (l.take p)) (l.drop p))else none
   |none=>none
 | .seq a b=>match er P N a,er P N b with
   |some a,some b=>some (.seq a b)
   |_,_=>none
 | .cond c a b=>match dA P c,er P N a,er P N b with
   |some c,some a,some b=>some (.cond c a b)
   |_,_,_=>none
 | .block id a=>(er P N a).map (.block id)
 | .loop a=>(er P N a).map .loop
 | .exit id=>some (.exit id)
 | .ret=>some .ret
 |_=>none
def Sk (P:Program):ResultVar→Option bo
 | .tmp t=>some (.tmp t)
 | .cell a t=>(p3 P t).map fun x=> .cell a x.1 x.2
def zB (P:Program):List ResultVar→Option (List bo)
 |[]=>some []
 |r::rs=>match Sk P r,zB P rs with
  |some a,some b=>some (a::b)
  |_,_=>none
def qY (P:Program) (f:Nat):Option (a3×List bo):=
 match P.funcs[f]? with
 |some fn=>match fn.body with
  |some c=>match er P fn.ntmps c,zB P fn.results.toList with
   |some l,some rs=>some (l,rs)
   |_,_=>none
  |none=>none
 |none=>none
end RV
namespace RV
open Go Go.RowKit
structure cY where
 bL:Nat
 off:Nat
 len:Nat
 sz:Nat
 whole:Bool
def cY.has (r:cY) (a:Addr):Prop:=a.block=r.bL∧(r.whole=true∨(r.off≤a.off∧a.off<r.off+r.len))
abbrev bU:=Nat→Option cY
mutual
def aT (rd:Mem) (β:bU):ag→Value→Prop
 | .d x,v=>bj rd x v
 | .agg cs,v=>∃vs,v= .agg vs∧bY rd β cs vs.toList
 | .box i off,v=>∃r,β i=some r∧v= .pointer (some (cellAt r.bL (r.off+off)))
 | .own i lo n,v=>∃A cap,v= .slice A n cap∧n≤cap∧((n=0∧cap=0)∨∃r,β i=some r∧A=some (cellAt r.bL (r.off+lo*r.sz))∧(r.whole=true→lo*r.sz+cap*r.sz≤r.len))
 | .eo i j off,v=>∃r,β i=some r∧v= .pointer (some (cellAt r.bL (r.off+j*r.sz+off)))
 | .dk f a b,v=>∃gd vc,v= .func (.func f) gd vc∧bY rd β a gd.toList∧bY rd β b vc.toList
 | .mp i,v=>∃r,β i=some r∧v= .map (some r.bL)
 | .dv l,v=>v= .func (.yield l) #[] #[]
 | .dB,v=>v=undef
 | .any,_=>True
def bY (rd:Mem) (β:bU):List ag→List Value→Prop
 |[],vs=>vs=[]
 |c::cs,vs=>∃v us,vs=v::us∧aT rd β c v∧bY rd β cs us
end
mutual
theorem aT.mono {r r':Mem} (h:b3 r r') {β:bU} :∀(x:ag) (v:Value),aT r β x v→aT r' β x v
 | .d x,_,H=>by simp only[aT]at*;exact bj.mono h x _ H
 | .agg cs,_,H=>by
   simp only[aT]at*
   obtain⟨vs,e,H⟩:=H
   exact⟨vs,e,bY.mono h cs _ H⟩
 | .box _ _,_,H=>by simp only[aT]at*;exact H
 | .own _ _ _,_,H=>by simp only[aT]at*;exact H
 | .eo _ _ _,_,H=>by simp only[aT]at*;exact H
 | .mp _,_,H=>by simp only[aT]at*;exact H
 | .dk _ x y,_,H=>by
   simp only[aT]at*
   obtain⟨gd,vc,e,H1,fb⟩:=H
   exact⟨gd,vc,e,bY.mono h x _ H1,bY.mono h y _ fb⟩
 | .dv _,_,H=>by simp only[aT]at*;exact H
 | .dB,_,H=>by simp only[aT]at*;exact H
 | .any,_,_=>by simp only[aT]
theorem bY.mono {r r':Mem} (h:b3 r r') {β:bU} :∀(xs:List ag) (vs:List Value),bY r β xs vs→bY r' β xs vs
 |[],_,H=>by simpa only[bY]using H
 |x::xs,_,H=>by
  simp only[bY]at*
  obtain⟨v,us,e,h1,h2⟩:=H
  exact⟨v,us,e,aT.mono h x v h1,bY.mono h xs us h2⟩
end
mutual
theorem aT.congr {r:Mem} {β β':bU} :∀(x:ag) (v:Value),(∀j,x.has j=true→β' j=β j)→aT r β x v→aT r β' x v
 | .d x,_,_,H=>by simpa only[aT]using H
 | .agg cs,_,h,H=>by
   simp only[aT]at*
   obtain⟨vs,e,H⟩:=H
   exact⟨vs,e,bY.congr cs _ (fun j aF=>h j (by simpa only[ag.has]using aF)) H⟩
 | .box i _,_,h,H=>by
   have:=h i (by simp[ag.has])
   simp only[aT,this]at*;exact H
 | .own i _ _,_,h,H=>by
   have:=h i (by simp[ag.has])
   simp only[aT,this]at*;exact H
 | .eo i _ _,_,h,H=>by
   have:=h i (by simp[ag.has])
   simp only[aT,this]at*;exact H
 | .mp i,_,h,H=>by
   have:=h i (by simp[ag.has])
   simp only[aT,this]at*;exact H
 | .dk _ x y,_,h,H=>by
   simp only[aT]at*
   obtain⟨gd,vc,e,H1,fb⟩:=H
   exact⟨gd,vc,e,bY.congr x _ (fun j aF=>h j (by simp[ag.has,aF])) H1,bY.congr y _ (fun j aF=>h j (by simp[ag.has,aF])) fb⟩
 | .dv _,_,_,H=>by simpa only[aT]using H
 | .dB,_,_,H=>by simpa only[aT]using H
 | .any,_,_,_=>by simp only[aT]
theorem bY.congr {r:Mem} {β β':bU} :∀(xs:List ag) (vs:List Value),(∀j,ag.df j xs=true→β' j=β j)→bY r β xs vs→bY r β' xs vs
 |[],_,_,H=>by simpa only[bY]using H
 |x::xs,_,h,H=>by
  simp only[bY]at*
  obtain⟨v,us,e,h1,h2⟩:=H
  exact⟨v,us,e,aT.congr x v (fun j aF=>h j (by simp[ag.df,aF])) h1,bY.congr xs us (fun j aF=>h j (by simp[ag.df,aF])) h2⟩
end
theorem aT.kill {r:Mem} {β β':bU} {i:Nat} (hg:∀j,j≠i→β' j=β j) {x:ag} {v:Value} (H:aT r β x v):aT r β' (x.kill i) v:=by
 have key:aT r β' (if x.has i then ag.any else x) v:=by
  by_cases aj:x.has i=true
  ·rw[if_pos aj];simp only[aT]
  ·rw[if_neg aj]
   refine aT.congr x v (fun j aF=>hg j fun e=>aj (e▸aF)) H
 unfold ag.kill
 split
 ·simpa [ag.has]using key
 ·exact key
def c5 (w:World) (rd:Mem) (β:bU) (b:Nat):Nat→List ag→Prop
 |_,[]=>True
 |o,v::vs=>(∃u,w.cell? (cellAt b o)=some u∧aT rd β v u)∧c5 w rd β b (o+1) vs
def dd (w:World) (rd:Mem) (b:Nat):Nat→List D→Prop
 |_,[]=>True
 |o,v::vs=>(∃u,w.cell? (cellAt b o)=some u∧bj rd v u)∧dd w rd b (o+1) vs
def hX (w:World) (rd:Mem) (b sz:Nat):Nat→List (List D)→Prop
 |_,[]=>True
 |o,r::rs=>r.length=sz∧dd w rd b o r∧hX w rd b sz (o+sz) rs
def hd:List Int→Value
 |[n]=> .int .i64 n
 |l=> .agg (l.map (Value.int .i64)).toArray
def iY (rd:Mem) (n:Nat):List (List Int×D)→List MapEntry→Prop
 |[],es=>es=[]
 |(k,d)::r,es=>k.length=n∧∃e l,es=e::l∧e.key=hd k∧bj rd d e.val∧iY rd n r l
theorem iY.mono {r r':Mem} (h:b3 r r') {n:Nat} :∀{xs:List (List Int×D)} {es:List MapEntry},iY r n xs es→iY r' n xs es
 |[],_,H=>H
 |(_,d)::_,_,⟨h0,e,l,aN,aX,H1,fb⟩=>⟨h0,e,l,aN,aX,H1.mono h d _,iY.mono h fb⟩
def BC.isMap:BC→Bool
 | .map _ _=>true
 |_=>false
def e7 (w:World) (rd:Mem) (β:bU) (r:cY):BC→Prop
 | .cells cs=>cs.length≤r.len∧c5 w rd β r.bL r.off cs
 | .ints k xs=>r.sz=1∧xs.length≤r.len∧gX w.cell? k r.bL r.off xs
 | .flts xs=>r.sz=1∧xs.length≤r.len∧gY w.cell? r.bL r.off xs
 | .recs sz xs=>r.sz=sz∧xs.length*sz≤r.len∧hX w rd r.bL sz r.off xs
 | .map n es=>∃tJ lr,w.heap[r.bL]? =some (.map tJ lr)∧iY rd n es tJ.toList
def tK (w:World) (r:cY):Prop:=
 ∃arr e cx,w.heap[r.bL]? =some (.cells arr e cx)∧r.off+r.len≤arr.size∧(∀o,r.off≤o→o<r.off+r.len→¬(cx.1≤o∧o<cx.2))∧
  (r.whole=true→r.off=0∧arr.size=r.len∧cx=(0,0))
def dZ (w:World) (r:cY) (c:BC):Prop:=
 if c.isMap=true then (∃es lr,w.heap[r.bL]? =some (.map es lr))∧r.off=0∧r.len=1 else tK w r
theorem dZ.cells {w:World} {r:cY} {c:BC} (h:dZ w r c) (hm:c.isMap=false):tK w r:=by
 unfold dZ at h;rw[if_neg (by rw[hm];simp)]at h;exact h
theorem dZ.of {w:World} {r:cY} {c:BC} (h:tK w r) (hm:c.isMap=false):dZ w r c:=by
 unfold dZ;rw[if_neg (by rw[hm];simp)];exact h
theorem dZ.congr {w:World} {r:cY} {c c':BC} (h:dZ w r c) (e:c'.isMap=c.isMap):dZ w r c':=by
 unfold dZ at*;rw[e];exact h
def BC.isNil:BC→Bool
 | .ints _ []| .flts []| .recs _ []=>true
 |_=>false
def CO (R:bU) (b:Nat) (o o':Option Obj):Prop:=
 o'=o∨(∃c e cx c',o=some (.cells c e cx)∧o'=some (.cells c' e cx)∧c'.size=c.size∧∀i:Nat,(∀j r,R j=some r→¬r.has (cellAt b i))→c'[i]? =c[i]?)∨
 (∃es k es' cX,o=some (.map es k)∧o'=some (.map es' cX)∧∃j r,R j=some r∧r.bL=b)
structure ih (R:bU) (aR w:World):Prop where
 os:w.os=aR.os
 tape:w.tape=aR.tape
 output:w.output=aR.output
 size:aR.heap.size≤w.heap.size
 block:∀k,k<aR.heap.size→CO R k (aR.heap[k]?) (w.heap[k]?)
structure e3 extends World where
 dH:Nat→Option Obj
def _root_.Go.World.base (w:World):e3:=⟨w,fun _=>none⟩
def A0 (o:Obj):Prop:=(∀c t cx,o≠ .cells c t cx)∧∀es k,o≠ .map es k
def Safe (rd:Mem) (β:bU) (k:Nat) (o:Obj):Prop:=A0 o∨((∀i r,β i=some r→r.bL≠k)∧∀a:Addr,a.block=k→rd a=none)
theorem Safe.to {rd gy:Mem} {β kR:bU} {k:Nat} {o:Obj} (h:Safe rd β k o) (ar:∀a v,gy a=some v→a.block=k→rd a=some v∨∃i r,β i=some r∧r.bL=k) (hg:∀i r,kR i=some r→r.bL=k→∃j r',β j=some r'∧r'.bL=k):Safe gy kR k o:=by
 rcases h with h|⟨a,b⟩
 ·exact .inl h
 ·refine .inr ⟨fun i r hi e=> ?_,fun aP aw=> ?_⟩
  ·obtain⟨j,r',aF,e'⟩:=hg i r hi e
   exact a j r' aF e'
  ·cases e:gy aP with
   |none=>rfl
   |some v=>
    rcases ar aP v e aw with h|⟨i,r,hi,e'⟩
    ·rw[b aP aw]at h;cases h
    ·exact absurd e' (a i r hi)
structure bd (N:Nat) (aR:e3) (aL:Mem) (R:bU) (σ:St) (a:Act) (w:World) (rd:Mem) (β:bU):Prop where
 size:a.tmps.size=N
 defers:a.defers=[]
 cO:ih R aR.toWorld w
 dH:∀k o,aR.dH k=some o→Safe rd β k o∧w.heap[k]? =some o
 dg:b3 rd w.cell?
 dR:b3 aL rd
 aL:∀a v,rd a=some v→a.block<aR.heap.size→aL a=some v
 eR:∀i r b,β i=some r→σ.aA i=some b→b.cx=false→∀a,r.has a→rd a=none
 eX:∀t,aT rd β (σ.af t) (a.tmps.getD t undef)
 box:∀i r,β i=some r→∃b,σ.aA i=some b∧e7 w rd β r b.c∧dZ w r b.c∧(b.ext=false→aR.heap.size≤r.bL∧r.whole=true)∧(b.ext=true→R i=some r∧r.whole=false)
 eM:∀i b,σ.aA i=some b→β i=none→(b.ext=true→R i=none)∧b.c.isNil=true
 eE:∀i j az h9,i≠j→β i=some az→β j=some h9→∀a,az.has a→¬h9.has a
theorem c5.mono {w w':World} {rd rd':Mem} {β β':bU} {b:Nat} :∀{cs:List ag} {o:Nat},
 (∀i,o≤i→i<o+cs.length→w'.cell? (cellAt b i)=w.cell? (cellAt b i))→(∀v∈cs,∀u,aT rd β v u→aT rd' β' v u)→
 c5 w rd β b o cs→c5 w' rd' β' b o cs
 |[],_,_,_,_=>trivial
 |v::vs,o,ay,aB,⟨⟨u,e,H⟩,fb⟩=>
  ⟨⟨u,by rw[ay o (by omega) (by simp)];exact e,aB v (by simp) u H⟩,
    c5.mono (fun i h1 h2=>ay i (by omega) (by simp;omega)) (fun x aj=>aB x (by simp[aj])) fb⟩
theorem dd.mono {w w':World} {rd rd':Mem} (hm:b3 rd rd') {b:Nat} :∀{cs:List D} {o:Nat},
 (∀i,o≤i→i<o+cs.length→w'.cell? (cellAt b i)=w.cell? (cellAt b i))→dd w rd b o cs→dd w' rd' b o cs
 |[],_,_,_=>trivial
 |v::vs,o,ay,⟨⟨u,e,H⟩,fb⟩=>
  ⟨⟨u,by rw[ay o (by omega) (by simp)];exact e,H.mono hm v u⟩,dd.mono hm (fun i h1 h2=>ay i (by omega) (by simp;omega)) fb⟩
theorem hX.mono {w w':World} {rd rd':Mem} (hm:b3 rd rd') {b sz:Nat} :∀{rs:List (List D)} {o:Nat},
 (∀i,o≤i→i<o+rs.length*sz→w'.cell? (cellAt b i)=w.cell? (cellAt b i))→hX w rd b sz o rs→hX w' rd' b sz o rs
 |[],_,_,_=>trivial
 |r::rs,o,ay,⟨h1,h2,aq⟩=>by
  have e:(r::rs).length*sz=sz+rs.length*sz:=by simp[Nat.succ_mul];omega
  rw[e]at ay
  exact⟨h1,h2.mono hm (fun i a b=>ay i a (by omega)),hX.mono hm (fun i a b=>ay i (by omega) (by omega)) aq⟩
theorem gX.cells {m eg:Mem} {k:IntKind} {b:Nat} :∀{xs:List Int} {o:Nat},(∀i,o≤i→i<o+xs.length→eg (cellAt b i)=m (cellAt b i))→gX m k b o xs→gX eg k b o xs
 |[],_,_,_=>trivial
 |_::_,o,ay,⟨h1,h2⟩=>⟨by rw[ay o (by omega) (by simp)];exact h1,gX.cells (fun i a b=>ay i (by omega) (by simp;omega)) h2⟩
theorem gY.cells {m eg:Mem} {b:Nat} :∀{xs:List Nat} {o:Nat},(∀i,o≤i→i<o+xs.length→eg (cellAt b i)=m (cellAt b i))→gY m b o xs→gY eg b o xs
 |[],_,_,_=>trivial
 |_::_,o,ay,⟨⟨y,h1,e⟩,h2⟩=>⟨⟨y,by rw[ay o (by omega) (by simp)];exact h1,e⟩,gY.cells (fun i a b=>ay i (by omega) (by simp;omega)) h2⟩
theorem e7.mono {w w':World} {rd rd':Mem} (hm:b3 rd rd') {β β':bU} {r:cY} {c:BC}
 (ay:∀i,r.off≤i→i<r.off+r.len→w'.cell? (cellAt r.bL i)=w.cell? (cellAt r.bL i))
 (aB:∀cs,c= .cells cs→∀v∈cs,∀u,aT rd β v u→aT rd' β' v u) (H:e7 w rd β r c) (aw:c.isMap=true→w'.heap[r.bL]? =w.heap[r.bL]?):e7 w' rd' β' r c:=by
 cases c with
 |cells cs=>exact⟨H.1,H.2.mono (fun i a b=>ay i a (by have:=H.1;omega)) (aB cs rfl)⟩
 |ints k xs=>exact⟨H.1,H.2.1,H.2.2.cells fun i a b=>ay i a (by have:=H.2.1;omega)⟩
 |flts xs=>exact⟨H.1,H.2.1,H.2.2.cells fun i a b=>ay i a (by have:=H.2.1;omega)⟩
 |recs sz xs=>exact⟨H.1,H.2.1,H.2.2.mono hm fun i a b=>ay i a (by have:=H.2.1;omega)⟩
 |map n es=>
  obtain⟨tJ,lr,h1,h2⟩:=H
  exact⟨tJ,lr,(aw rfl).trans h1,h2.mono hm⟩
theorem tK.lt {w:World} {r:cY} (h:tK w r):r.bL<w.heap.size:=by
 obtain⟨arr,e,cx,h,_⟩:=h
 rcases Nat.lt_or_ge r.bL w.heap.size with et|et
 ·exact et
 ·rw[Array.getElem?_eq_none et]at h;cases h
theorem tK.x8 {w w':World} {r:cY} (h:tK w r) (e:w'.heap[r.bL]? =w.heap[r.bL]?):tK w' r:=by
 obtain⟨arr,t,cx,h,h2⟩:=h
 exact⟨arr,t,cx,e.trans h,h2⟩
theorem dZ.lt {w:World} {r:cY} {c:BC} (h:dZ w r c):r.bL<w.heap.size:=by
 unfold dZ at h
 split at h
 ·obtain⟨⟨es,k,h⟩,_⟩:=h
  exact(Array.getElem?_eq_some_iff.1 h).1
 ·exact h.lt
theorem dZ.x8 {w w':World} {r:cY} {c:BC} (h:dZ w r c) (e:w'.heap[r.bL]? =w.heap[r.bL]?):dZ w' r c:=by
 unfold dZ at*
 split at h
 ·rename_i hm
  rw[if_pos hm]
  obtain⟨⟨es,k,h⟩,h2⟩:=h
  exact⟨⟨es,k,e.trans h⟩,h2⟩
 ·rename_i hm
  rw[if_neg hm]
  exact h.x8 e
theorem th {w w':World} {a:Addr} (e:w'.heap[a.block]? =w.heap[a.block]?):w'.cell? a=w.cell? a:=by
 unfold World.cell?;rw[e]
theorem AP {w:World} {a:Addr} {v:Value} (h:w.cell? a=some v):a.block<w.heap.size:=World.block_lt_of_cell? _ _ h
theorem CO.refl (R:bU) (b:Nat) (o:Option Obj):CO R b o o:= .inl rfl
theorem CO.trans {R:bU} {b:Nat} {x y z:Option Obj} (h:CO R b x y) (k:CO R b y z):CO R b x z:=by
 rcases h with rfl|⟨c,e,cx,c',h1,h2,aq,aK⟩|⟨es,p,es',dx,h1,h2,aq⟩
 ·exact k
 ·rcases k with rfl|⟨d,e',Uv,hQ,bh,bB,c2,hF⟩|⟨es,q,es',qy,bh,_⟩
  ·exact .inr (.inl ⟨c,e,cx,c',h1,h2,aq,aK⟩)
  ·rw[h2]at bh
   simp only[Option.some.injEq,Obj.cells.injEq]at bh
   obtain⟨rfl,rfl,rfl⟩:=bh
   exact .inr (.inl ⟨c,e,cx,hQ,h1,bB,c2.trans aq,fun i hi=>(hF i hi).trans (aK i hi)⟩)
  ·rw[h2]at bh;cases bh
 ·rcases k with rfl|⟨d,e',Uv,hQ,bh,bB,c2,hF⟩|⟨fs,q,Uw,qy,bh,bB,c2⟩
  ·exact .inr (.inr ⟨es,p,es',dx,h1,h2,aq⟩)
  ·rw[h2]at bh;cases bh
  ·exact .inr (.inr ⟨es,p,Uw,qy,h1,bB,c2⟩)
theorem ih.refl (R:bU) (w:World):ih R w w:=⟨rfl,rfl,rfl,Nat.le_refl _,fun _ _=> .inl rfl⟩
theorem ih.trans {R:bU} {a b c:World} (h:ih R a b) (k:ih R b c):ih R a c:=
 ⟨k.os.trans h.os,k.tape.trans h.tape,k.output.trans h.output,Nat.le_trans h.size k.size,fun i hi=>(h.block i hi).trans (k.block i (Nat.lt_of_lt_of_le hi h.size))⟩
theorem ih.below {R:bU} {aR w w':World} (h:ih R aR w) (k:Below w.heap.size w w'):ih R aR w':=
 h.trans ⟨k.os,k.tape,k.output,k.size,fun i hi=> .inl (k.block i hi)⟩
theorem XE {N d:Nat} (h:hK N (some d)=true):d<N:=by simpa [hK]using h
theorem amy {a:Act} {N:Nat} (aE:a.tmps.size=N) {dst:Option Nat} (aD:hK N dst=true) (u:Value) (t:Nat):
 (a.put dst u).tmps.getD t undef=if dst=some t then u else a.tmps.getD t undef:=by
 cases dst with
 |none=>simp[Act.put]
 |some d=>
  have aD:=XE aD
  by_cases e:d=t
  ·subst e
   simp[Act.put,Array.getD_eq_getD_getElem?,aE,aD]
  ·simp[Act.put,e,Array.getD_eq_getD_getElem?,Array.getElem?_setIfInBounds_ne e]
theorem fX (σ:St) (dst:Option Nat) (v:ag) (t:Nat):(σ.put dst v).af t=if dst=some t then v else σ.af t:=by
 cases dst with
 |none=>simp[St.put]
 |some d=>simp only[St.put,ae0,Option.some.injEq];by_cases e:t=d<;>simp[e,eq_comm]
theorem pQ (σ:St) (dst:Option Nat) (v:ag):(σ.put dst v).aA=σ.aA:=by cases dst<;>rfl
theorem amz (a:Act) (dst:Option Nat) (u:Value):(a.put dst u).tmps.size=a.tmps.size:=by cases dst<;>simp[Act.put]
theorem put_defers (a:Act) (dst:Option Nat) (u:Value):(a.put dst u).defers=a.defers:=by cases dst<;>rfl
section
variable {N:Nat} {aR:e3} {aL:Mem} {R:bU} {σ:St} {a:Act} {w:World} {rd:Mem} {β:bU}
theorem bd.put (h:bd N aR aL R σ a w rd β) {dst:Option Nat} (aD:hK N dst=true) {v:ag} {u:Value} (aB:aT rd β v u):
 bd N aR aL R (σ.put dst v) (a.put dst u) w rd β where
 size:=by rw[amz];exact h.size
 defers:=by rw[put_defers];exact h.defers
 cO:=h.cO
 dH:=h.dH
 dg:=h.dg
 dR:=h.dR
 aL:=h.aL
 eR:=by rw[pQ];exact h.eR
 eX:=fun t=>by
  rw[fX,amy h.size aD]
  split
  ·exact aB
  ·exact h.eX t
 box:=by rw[pQ];exact h.box
 eM:=by rw[pQ];exact h.eM
 eE:=h.eE
theorem QZ {w cf:World} (aw:Below w.heap.size w cf) {rd gy:Mem} {β kR:bU} (ar:∀a v,gy a=some v→a.block<w.heap.size→rd a=some v) (hg:∀i r,kR i=some r→β i=some r∨w.heap.size≤r.bL) {M:Nat→Option Obj} (h:∀k o,M k=some o→Safe rd β k o∧w.heap[k]? =some o):∀k o,M k=some o→Safe gy kR k o∧cf.heap[k]? =some o:=fun k o ad=>by
 obtain⟨h1,h2⟩:=h k o ad
 have bl:=(Array.getElem?_eq_some_iff.1 h2).1
 exact⟨h1.to (fun a v e ad=> .inl (ar a v e (by omega))) (fun i r hi e=>by rcases hg i r hi with h|h;exact⟨i,r,h,e⟩;omega),by rw[aw.block k (Array.getElem?_eq_some_iff.1 h2).1];exact h2⟩
theorem bd.more (h:bd N aR aL R σ a w rd β) {cf:World} (aw:Below w.heap.size w cf) {gy:Mem} (hle:b3 rd gy) (hw:b3 gy cf.cell?)
 (hold:∀a v,gy a=some v→a.block<w.heap.size→rd a=some v):bd N aR aL R σ a cf gy β where
 size:=h.size
 defers:=h.defers
 cO:=h.cO.below aw
 dH:=QZ aw hold (fun _ _ h=> .inl h) h.dH
 dg:=hw
 dR:=h.dR.trans hle
 aL:=fun a v e aH=>h.aL a v (hold a v e (Nat.lt_of_lt_of_le aH h.cO.size)) aH
 eR:=fun i r b hi aj hf aP a6=>by
  obtain⟨_,_,_,aQ,_⟩:=h.box i r hi
  cases e:gy aP with
  |none=>rfl
  |some v=>
   have bl:aP.block<w.heap.size:=by rw[a6.1];exact aQ.lt
   have:=hold aP v e bl
   rw[h.eR i r b hi aj hf aP a6]at this
   cases this
 eX:=fun t=>(h.eX t).mono hle
 box:=fun i r hi=>by
  obtain⟨b,aj,ay,aQ,h1,h2⟩:=h.box i r hi
  have bl:=aQ.lt
  exact⟨b,aj,ay.mono hle (fun j _ _=>th (aw.block _ bl)) (fun _ _ v _ u H=>aT.mono hle v u H) (fun _=>aw.block _ bl),aQ.x8 (aw.block _ bl),h1,h2⟩
 eM:=h.eM
 eE:=h.eE
theorem bd.alo (h:bd N aR aL R σ a w rd β) {i j:Nat} {r r':cY} {b fm:cm} (ei:j≠i) (hi:β i=some r) (aw:σ.aA i=some b) (hm:b.c.isMap=true) (aF:β j=some r') (cH:σ.aA j=some fm):r'.bL≠r.bL:=by
 intro he
 obtain⟨cK,iz,_,p0,_⟩:=h.box i r hi
 obtain⟨bM,gT,_,p1,_⟩:=h.box j r' aF
 rw[aw]at iz;simp only[Option.some.injEq]at iz;subst iz
 unfold dZ at p0
 rw[if_pos hm]at p0
 obtain⟨⟨es,k,hw⟩,dP,fw⟩:=p0
 unfold dZ at p1
 split at p1
 ·obtain⟨_,jF,da⟩:=p1
  exact h.eE i j r r' (Ne.symm ei) hi aF (cellAt r.bL 0) ⟨rfl,.inr (by show r.off≤0∧0<r.off+r.len;omega)⟩ ⟨he.symm,.inr (by show r'.off≤0∧0<r'.off+r'.len;omega)⟩
 ·obtain⟨arr,t,cx,p1,_⟩:=p1
  rw[he,hw]at p1;cases p1
end
end RV
namespace RV
open Go Go.RowKit
noncomputable def plus (w:World) (S:Addr→Prop) (rd:Mem):Mem:=fun a=>
 match rd a with
 |some v=>some v
 |none=>open Classical in if S a then w.cell? a else none
theorem oM (w:World) (S:Addr→Prop) (rd:Mem):b3 rd (plus w S rd):=fun a v h=>by simp[plus,h]
theorem yd {w:World} {S:Addr→Prop} {rd:Mem} (h:b3 rd w.cell?):b3 (plus w S rd) w.cell? :=fun a v e=>by
 unfold plus at e
 split at e
 ·rename_i u hu;rw[←e];exact h a u hu
 ·split at e
  ·exact e
  ·cases e
theorem RL {w:World} {S:Addr→Prop} {rd:Mem} (h:b3 rd w.cell?) {a:Addr} (aE:S a):plus w S rd a=w.cell? a:=by
 unfold plus
 split
 ·rename_i u hu;exact(h a u hu).symm
 ·rw[if_pos aE]
theorem x9 {w:World} {S:Addr→Prop} {rd:Mem} {a:Addr} (aE:¬S a):plus w S rd a=rd a:=by
 unfold plus
 split
 ·rename_i u hu;exact hu.symm
 ·rename_i hu;rw[if_neg aE,hu]
def ke (w w':World) (rd:Mem):Mem:=fun a=>if a.block<w.heap.size then rd a else w'.cell? a
section
variable {N:Nat} {aR:e3} {aL:Mem} {R:bU} {σ σ':St} {a:Act} {w:World} {rd:Mem} {β β':bU}
def BC.gK (f:ag→ag):BC→BC
 | .cells cs=> .cells (cs.map f)
 |c=>c
def cm.gK (f:ag→ag) (b:cm):cm:=⟨b.cx,b.ext,b.c.gK f⟩
theorem cm.CI (i:Nat) (b:cm):b.kill i=b.gK (ag.kill i):=by
 cases b with|mk f e c=>cases c<;>rfl
theorem cm.aoe (b:cm):b.gK (fun v=>v)=b:=by
 cases b with|mk f e c=>cases c<;>simp[cm.gK,BC.gK]
theorem c5.gK {w w':World} {rd:Mem} {f:ag→ag} (hf:∀x v,aT rd β x v→aT rd β' (f x) v) {b:Nat} :∀{cs:List ag} {o:Nat},
 (∀i,o≤i→i<o+cs.length→w'.cell? (cellAt b i)=w.cell? (cellAt b i))→c5 w rd β b o cs→c5 w' rd β' b o (cs.map f)
 |[],_,_,_=>trivial
 |v::vs,o,ay,⟨⟨u,e,H⟩,fb⟩=>⟨⟨u,by rw[ay o (by omega) (by simp)];exact e,hf v u H⟩,c5.gK hf (fun i h1 h2=>ay i (by omega) (by simp;omega)) fb⟩
theorem e7.gK {w w':World} {rd:Mem} {f:ag→ag} (hf:∀x v,aT rd β x v→aT rd β' (f x) v) {r:cY} {c:BC}
 (ay:∀i,r.off≤i→i<r.off+r.len→w'.cell? (cellAt r.bL i)=w.cell? (cellAt r.bL i)) (H:e7 w rd β r c) (aw:c.isMap=true→w'.heap[r.bL]? =w.heap[r.bL]?):e7 w' rd β' r (c.gK f):=by
 cases c with
 |cells cs=>exact⟨by simpa [BC.gK]using H.1,H.2.gK hf (fun i a b=>ay i a (by have:=H.1;omega))⟩
 |ints k xs=>exact H.mono (b3.refl _) ay (fun cs e=>by cases e) aw
 |flts xs=>exact H.mono (b3.refl _) ay (fun cs e=>by cases e) aw
 |recs sz xs=>exact H.mono (b3.refl _) ay (fun cs e=>by cases e) aw
 |map n es=>exact H.mono (b3.refl _) ay (fun cs e=>by cases e) aw
theorem Ec (f:ag→ag) (c:BC):(c.gK f).isMap=c.isMap:=by cases c<;>rfl
theorem Ed (f:ag→ag) (c:BC):(c.gK f).isNil=c.isNil:=by cases c<;>rfl
theorem bd.new (h:bd N aR aL R σ a w rd β) {i:Nat} {b:cm} (he:b.ext=false) {o:Obj} {r:cY} (ar:r.bL=w.heap.size) (Kv:r.whole=true)
 {f:ag→ag} (hf:∀x v,aT rd β x v→aT rd (fun j=>if j=i then some r else β j) (f x) v)
 (Dm:σ'.af=fun t=>f (σ.af t)) (hx:∀j,σ'.aA j=if j=i then some b else (σ.aA j).map (cm.gK f))
 (ay:e7 (w.alloc o) rd (fun j=>if j=i then some r else β j) r b.c) (aQ:dZ (w.alloc o) r b.c):
 bd N aR aL R σ' a (w.alloc o) rd (fun j=>if j=i then some r else β j)where
 size:=h.size
 defers:=h.defers
 cO:=h.cO.below ((Below.refl _ _).alloc (Nat.le_refl _) o)
 dH:=QZ ((Below.refl _ _).alloc (Nat.le_refl _) o) (fun _ _ e _=>e) (fun j r' aF=>by split at aF;simp only[Option.some.injEq]at aF;subst aF;exact .inr (by omega);exact .inl aF) h.dH
 dR:=h.dR
 dg:=fun aP v e=>by rw[World.cell?_alloc_lt _ _ _ (AP (h.dg aP v e))];exact h.dg aP v e
 aL:=h.aL
 eR:=fun j r' fm aF aj bp aP a6=>by
  split at aF
  ·simp only[Option.some.injEq]at aF
   subst aF
   cases e:rd aP with
   |none=>rfl
   |some v=>have:=AP (h.dg aP v e);have:=a6.1;omega
  ·rename_i ei
   rw[hx,if_neg ei]at aj
   obtain⟨cK,h0,_⟩:=h.box j r' aF
   rw[h0]at aj
   simp only[Option.map_some,Option.some.injEq]at aj
   subst aj
   exact h.eR j r' cK aF h0 bp aP a6
 eX:=fun t=>by rw[Dm];exact hf _ _ (h.eX t)
 box:=fun j r' aF=>by
  split at aF
  ·rename_i ei
   simp only[Option.some.injEq]at aF
   subst aF
   refine⟨b,by rw[hx,if_pos ei],ay,aQ,fun _=>⟨by rw[ar];exact h.cO.size,Kv⟩,fun e=>by rw[he]at e;cases e⟩
  ·rename_i ei
   obtain⟨cK,h0,dO,eF,h1,h2⟩:=h.box j r' aF
   have bl:=eF.lt
   have Dn:(w.alloc o).heap[r'.bL]? =w.heap[r'.bL]? :=Below.heap_alloc _ _ _ bl
   exact⟨cK.gK f,by rw[hx,if_neg ei,h0];rfl,dO.gK hf (fun k _ _=>th Dn) (fun _=>Dn),(eF.x8 Dn).congr (Ec f _),h1,h2⟩
 eM:=fun j fm aj aF=>by
  split at aF
  ·cases aF
  ·rename_i ei
   rw[hx,if_neg ei]at aj
   cases h0:σ.aA j with
   |none=>rw[h0]at aj;cases aj
   |some cK=>
    rw[h0]at aj
    simp only[Option.map_some,Option.some.injEq]at aj
    subst aj
    obtain⟨bh,bB⟩:=h.eM j cK h0 aF
    exact⟨bh,by rw[←bB];exact Ed f cK.c⟩
 eE:=fun j k h9 lK sG aF ad aP a6 cH=>by
  split at aF<;>split at ad
  ·omega
  ·simp only[Option.some.injEq]at aF
   subst aF
   obtain⟨_,_,_,eF,_⟩:=h.box k lK ad
   have:=eF.lt
   have:=a6.1
   have:=cH.1
   omega
  ·simp only[Option.some.injEq]at ad
   subst ad
   obtain⟨_,_,_,eF,_⟩:=h.box j h9 aF
   have:=eF.lt
   have:=a6.1
   have:=cH.1
   omega
  ·exact h.eE j k h9 lK sG aF ad aP a6 cH
theorem bd.Sl (h:bd N aR aL R σ a w rd β) {i:Nat} {b:cm} (he:b.ext=false) (aJ:b.c.isNil=true)
 {f:ag→ag} (hf:∀x v,aT rd β x v→aT rd (fun j=>if j=i then none else β j) (f x) v)
 (Dm:σ'.af=fun t=>f (σ.af t)) (hx:∀j,σ'.aA j=if j=i then some b else (σ.aA j).map (cm.gK f)):
 bd N aR aL R σ' a w rd (fun j=>if j=i then none else β j)where
 size:=h.size
 defers:=h.defers
 cO:=h.cO
 dH:=fun k o ad=>⟨(h.dH k o ad).1.to (fun _ _ e _=> .inl e) (fun j r' aF e=>by split at aF;cases aF;exact⟨j,r',aF,e⟩),(h.dH k o ad).2⟩
 dg:=h.dg
 dR:=h.dR
 aL:=h.aL
 eR:=fun j r' fm aF aj bp aP a6=>by
  split at aF
  ·cases aF
  ·rename_i ei
   rw[hx,if_neg ei]at aj
   obtain⟨cK,h0,_⟩:=h.box j r' aF
   rw[h0]at aj
   simp only[Option.map_some,Option.some.injEq]at aj
   subst aj
   exact h.eR j r' cK aF h0 bp aP a6
 eX:=fun t=>by rw[Dm];exact hf _ _ (h.eX t)
 box:=fun j r' aF=>by
  split at aF
  ·cases aF
  ·rename_i ei
   obtain⟨cK,h0,dO,eF,h1,h2⟩:=h.box j r' aF
   exact⟨cK.gK f,by rw[hx,if_neg ei,h0];rfl,dO.gK hf (fun _ _ _=>rfl) (fun _=>rfl),eF.congr (Ec f _),h1,h2⟩
 eM:=fun j fm aj aF=>by
  split at aF
  ·rename_i ei
   rw[hx,if_pos ei]at aj
   simp only[Option.some.injEq]at aj
   subst aj
   exact⟨(fun e=>by rw[he]at e;cases e),aJ⟩
  ·rename_i ei
   rw[hx,if_neg ei]at aj
   cases h0:σ.aA j with
   |none=>rw[h0]at aj;cases aj
   |some cK=>
    rw[h0]at aj
    simp only[Option.map_some,Option.some.injEq]at aj
    subst aj
    obtain⟨bh,bB⟩:=h.eM j cK h0 aF
    exact⟨bh,by rw[←bB];exact Ed f cK.c⟩
 eE:=fun j k h9 lK sG aF ad=>by
  split at aF
  ·cases aF
  ·split at ad
   ·cases ad
   ·exact h.eE j k h9 lK sG aF ad
theorem bd.store (h:bd N aR aL R σ a w rd β) {i:Nat} {r:cY} (hi:β i=some r) {e:Bool} {c c':BC} (aj:σ.aA i=some ⟨false,e,c⟩)
 {arr kK:Array Value} {t:TypeId} {cx:Nat×Nat} (hw:w.heap[r.bL]? =some (.cells arr t cx)) (fQ:kK.size=arr.size)
 (fZ:∀k,¬(r.off≤k∧k<r.off+r.len)→kK[k]? =arr[k]?)
 (ay:e7 { w with heap:=w.heap.setIfInBounds r.bL (.cells kK t cx) } rd β r c') (hm:c'.isMap=false):
 bd N aR aL R (σ.ea i ⟨false,e,c'⟩) a { w with heap:=w.heap.setIfInBounds r.bL (.cells kK t cx) } rd β:=by
 have bl:r.bL<w.heap.size:=by
  rcases Nat.lt_or_ge r.bL w.heap.size with et|et
  ·exact et
  ·rw[Array.getElem?_eq_none et]at hw;cases hw
 have tL:∀k,k≠r.bL→(w.heap.setIfInBounds r.bL (.cells kK t cx))[k]? =w.heap[k]? :=fun k ad=>Array.getElem?_setIfInBounds_ne (Ne.symm ad)
 have tD:(w.heap.setIfInBounds r.bL (.cells kK t cx))[r.bL]? =some (.cells kK t cx):=by
  rw[Array.getElem?_setIfInBounds_self_of_lt bl]
 obtain⟨cK,h0,dO,eF,gA,eG⟩:=h.box i r hi
 rw[aj]at h0
 simp only[Option.some.injEq]at h0
 subst h0
 have SI:∀{r':cY} {bR:BC},dZ w r' bR→r'.bL=r.bL→bR.isMap=false:=fun {r' bR} aQ he=>by
  cases cp:bR.isMap with
  |false=>rfl
  |true=>
   unfold dZ at aQ
   rw[if_pos cp,he,hw]at aQ
   obtain⟨⟨es,k,h⟩,_⟩:=aQ
   cases h
 have eF:=eF.cells (SI eF rfl)
 have fr:∀aP:Addr,¬r.has aP→World.cell? { w with heap:=w.heap.setIfInBounds r.bL (.cells kK t cx) } aP=w.cell? aP:=by
  intro aP fC
  unfold World.cell?
  dsimp only
  by_cases aw:aP.block=r.bL
  ·rw[aw,tD,hw]
   dsimp only
   split
   ·rfl
   ·refine fZ _ fun ar=>fC ⟨aw,.inr ar⟩
  ·rw[tL _ aw]
 have gl:ih R aR.toWorld { w with heap:=w.heap.setIfInBounds r.bL (.cells kK t cx) } :=by
  refine⟨h.cO.os,h.cO.tape,h.cO.output,by simpa using h.cO.size,fun k ad=> ?_⟩
  by_cases aw:k=r.bL
  ·subst aw
   refine(h.cO.block _ ad).trans ?_
   rw[tD,hw]
   cases e with
   |false=>have:=(gA rfl).1;omega
   |true=>
    refine .inr (.inl ⟨arr,t,cx,kK,rfl,rfl,fQ,fun k ad=>fZ k fun ar=>ad i r (eG rfl).1 ⟨rfl,.inr ar⟩⟩)
  ·rw[tL k aw];exact h.cO.block k ad
 exact {
  size:=h.size
  defers:=h.defers
  cO:=gl
  dH:=fun k o ad=>by
   obtain⟨h1,h2⟩:=h.dH k o ad
   refine⟨h1,?_⟩
   by_cases aw:k=r.bL
   ·rw[aw,hw]at h2
    rcases h1 with h1|⟨h1,_⟩
    ·exact absurd (Option.some.inj h2).symm (h1.1 _ _ _)
    ·exact absurd aw.symm (h1 i r hi)
   ·rw[tL k aw];exact h2
  dR:=h.dR
  dg:=fun aP v aB=>by
   rw[fr aP fun fC=>by rw[h.eR i r _ hi aj rfl aP fC]at aB;cases aB]
   exact h.dg aP v aB
  aL:=h.aL
  eR:=fun j r' fm aF cH bp aP a6=>by
   by_cases ei:j=i
   ·subst ei
    rw[hi]at aF
    simp only[Option.some.injEq]at aF
    subst aF
    exact h.eR j r _ hi aj rfl aP a6
   ·refine h.eR j r' fm aF ?_ bp aP a6
    simpa [St.ea,lb,ei]using cH
  eX:=h.eX
  box:=fun j r' aF=>by
   by_cases ei:j=i
   ·subst ei
    rw[hi]at aF
    simp only[Option.some.injEq]at aF
    subst aF
    refine⟨⟨false,e,c'⟩,by simp[St.ea,lb],ay,dZ.of ?_ hm,gA,eG⟩
    obtain⟨asD,t0,aul,iR,bh,bB,c2⟩:=eF
    rw[hw]at iR
    simp only[Option.some.injEq,Obj.cells.injEq]at iR
    obtain⟨rfl,rfl,rfl⟩:=iR
    exact⟨kK,t,cx,tD,by rw[fQ];exact bh,bB,fun kS=>⟨(c2 kS).1,by rw[fQ];exact(c2 kS).2.1,(c2 kS).2.2⟩⟩
   ·obtain⟨bM,gT,bR,p1,cI,dS⟩:=h.box j r' aF
    refine⟨bM,by simpa [St.ea,lb,ei]using gT,?_,?_,cI,dS⟩
    ·refine bR.mono (b3.refl _) (fun k Kw vI=>fr _ fun fC=>h.eE i j r r' (Ne.symm ei) hi aF _ fC ⟨rfl,.inr ⟨Kw,vI⟩⟩) (fun _ _ _ _ _ H=>H) (fun cp=> ?_)
     by_cases aw:r'.bL=r.bL
     ·rw[SI p1 aw]at cp;cases cp
     ·exact tL _ aw
    ·by_cases aw:r'.bL=r.bL
     ·have LG:=SI p1 aw
      have p1:=p1.cells LG
      refine dZ.of ?_ LG
      obtain⟨asD,t0,aul,iR,bh,bB,c2⟩:=p1
      rw[aw,hw]at iR
      simp only[Option.some.injEq,Obj.cells.injEq]at iR
      obtain⟨rfl,rfl,rfl⟩:=iR
      exact⟨kK,t,cx,by rw[aw];exact tD,by rw[fQ];exact bh,bB,fun kS=>⟨(c2 kS).1,by rw[fQ];exact(c2 kS).2.1,(c2 kS).2.2⟩⟩
     ·exact p1.x8 (tL _ aw)
  eM:=fun j fm cH aF=>by
   by_cases ei:j=i
   ·subst ei;rw[hi]at aF;cases aF
   ·exact h.eM j fm (by simpa [St.ea,lb,ei]using cH) aF
  eE:=h.eE }
def jn (β:bU) (vs:List ag) (aP:Addr):Prop:=∃i r,ag.df i vs=true∧β i=some r∧r.has aP
theorem Ny (σ:St) (i j:Nat):(σ.vG i).aA j=bif i==j then (σ.aA j).map (fun b=>⟨true,b.ext,b.c⟩)else σ.aA j:=by
 by_cases e:j=i
 ·subst e;simp[St.vG]
 ·have:(i==j)=false:=by simp;omega
  simp[St.vG,e,this]
mutual
theorem amA (σ:St):∀(v:ag) (j:Nat),(kd σ v).aA j=bif v.has j then (σ.aA j).map (fun b=>⟨true,b.ext,b.c⟩)else σ.aA j
 | .d _,j=>by simp[kd,ag.has]
 | .agg cs,j=>by simpa [kd,ag.has]using CJ σ cs j
 | .box i _,j=>Ny σ i j
 | .own i _ _,j=>Ny σ i j
 | .eo i _ _,j=>Ny σ i j
 | .mp i,j=>Ny σ i j
 | .dk _ x y,j=>by
   simp only[kd,ag.has]
   rw[CJ (l6 σ x) y j,CJ σ x j]
   cases h1:ag.df j x<;>cases h2:ag.df j y<;>simp
   cases σ.aA j<;>rfl
 | .dv _,j=>by simp[kd,ag.has]
 | .dB,j=>by simp[kd,ag.has]
 | .any,j=>by simp[kd,ag.has]
theorem CJ (σ:St):∀(vs:List ag) (j:Nat),(l6 σ vs).aA j=bif ag.df j vs then (σ.aA j).map (fun b=>⟨true,b.ext,b.c⟩)else σ.aA j
 |[],j=>by simp[l6,ag.df]
 |v::vs,j=>by
  rw[l6,CJ (kd σ v) vs j,amA σ v j]
  simp only[ag.df]
  cases h1:v.has j<;>cases h2:ag.df j vs<;>simp
  cases σ.aA j<;>rfl
end
mutual
theorem amB (σ:St):∀(v:ag),(kd σ v).af=σ.af
 | .d _=>rfl
 | .agg cs=>by simpa [kd]using IC σ cs
 | .box i _=>rfl
 | .own i _ _=>rfl
 | .eo i _ _=>rfl
 | .mp i=>rfl
 | .dk _ x y=>by rw[kd,IC (l6 σ x) y,IC σ x]
 | .dv _=>rfl
 | .dB=>rfl
 | .any=>rfl
theorem IC (σ:St):∀(vs:List ag),(l6 σ vs).af=σ.af
 |[]=>rfl
 |v::vs=>by rw[l6,IC (kd σ v) vs,amB σ v]
end
mutual
theorem aof {σ:St} :∀(v:ag),pR σ v=true→∀j b,v.has j=true→σ.aA j=some b→b.ext=false
 | .d _,_,_,_,h,_=>by simp[ag.has]at h
 | .agg cs,aH,j,b,h,aw=>AW cs (by simpa [pR]using aH) j b (by simpa [ag.has]using h) aw
 | .box i _,aH,j,b,h,aw=>by
   simp only[ag.has,beq_iff_eq]at h;subst h
   simp only[pR,aw]at aH;simpa using aH
 | .own i _ _,aH,j,b,h,aw=>by
   simp only[ag.has,beq_iff_eq]at h;subst h
   simp only[pR,aw]at aH;simpa using aH
 | .eo i _ _,aH,j,b,h,aw=>by
   simp only[ag.has,beq_iff_eq]at h;subst h
   simp only[pR,aw]at aH;simpa using aH
 | .mp i,aH,j,b,h,aw=>by
   simp only[ag.has,beq_iff_eq]at h;subst h
   simp only[pR,aw]at aH;simpa using aH
 | .dk _ x y,aH,j,b,h,aw=>by
   simp only[pR,Bool.and_eq_true]at aH
   simp only[ag.has,Bool.or_eq_true]at h
   rcases h with h|h
   ·exact AW x aH.1 j b h aw
   ·exact AW y aH.2 j b h aw
 | .dv _,_,_,_,h,_=>by simp[ag.has]at h
 | .dB,_,_,_,h,_=>by simp[ag.has]at h
 | .any,_,_,_,h,_=>by simp[ag.has]at h
theorem AW {σ:St} :∀(vs:List ag),q6 σ vs=true→∀j b,ag.df j vs=true→σ.aA j=some b→b.ext=false
 |[],_,_,_,h,_=>by simp[ag.df]at h
 |v::vs,aH,j,b,h,aw=>by
  simp only[q6,Bool.and_eq_true]at aH
  simp only[ag.df,Bool.or_eq_true]at h
  rcases h with h|h
  ·exact aof v aH.1 j b h aw
  ·exact AW vs aH.2 j b h aw
end
theorem bd.vG (h:bd N aR aL R σ a w rd β) {vs:List ag} (aH:q6 σ vs=true):bd N aR aL R (l6 σ vs) a w (plus w (jn β vs) rd) β where
 size:=h.size
 defers:=h.defers
 cO:=h.cO
 dH:=fun k o ad=>⟨(h.dH k o ad).1.to (fun aP v e aw=>by
  by_cases aE:jn β vs aP
  ·obtain⟨i,r,hi,ar,a6⟩:=aE
   exact .inr ⟨i,r,ar,by rw[←aw];exact a6.1.symm⟩
  ·rw[x9 aE]at e;exact .inl e) (fun i r hi e=>⟨i,r,hi,e⟩),(h.dH k o ad).2⟩
 dg:=yd h.dg
 dR:=h.dR.trans (oM _ _ _)
 aL:=fun aP v e aw=>by
  by_cases aE:jn β vs aP
  ·obtain⟨i,r,hi,ar,a6⟩:=aE
   obtain⟨b,aj,_,_,gA,_⟩:=h.box i r ar
   have:=(gA (AW vs aH i b hi aj)).1
   have:=a6.1
   omega
  ·rw[x9 aE]at e;exact h.aL aP v e aw
 eR:=fun i r b hi aj bp aP a6=>by
  rw[CJ]at aj
  cases sH:ag.df i vs with
  |true=>
   rw[sH]at aj
   cases aw:σ.aA i with
   |none=>rw[aw]at aj;cases aj
   |some cK=>rw[aw]at aj;simp only[cond_true,Option.map_some,Option.some.injEq]at aj;subst aj;cases bp
  |false=>
   rw[sH]at aj
   rw[x9]
   ·exact h.eR i r b hi aj bp aP a6
   ·rintro⟨j,h9,aF,aum,aun⟩
    by_cases e:j=i
    ·subst e;rw[aF]at sH;cases sH
    ·exact h.eE j i h9 r e aum hi aP aun a6
 eX:=fun t=>by rw[IC];exact(h.eX t).mono (oM _ _ _)
 box:=fun i r hi=>by
  obtain⟨b,aj,ay,aQ,gA,eG⟩:=h.box i r hi
  have cZ:e7 w (plus w (jn β vs) rd) β r b.c:=ay.mono (oM _ _ _) (fun _ _ _=>rfl) (fun _ _ v _ u H=>aT.mono (oM _ _ _) v u H) (fun _=>rfl)
  rw[CJ,aj]
  cases ag.df i vs
  ·exact⟨b,rfl,cZ,aQ,gA,eG⟩
  ·exact⟨⟨true,b.ext,b.c⟩,rfl,cZ,aQ,gA,eG⟩
 eM:=fun i b aj hi=>by
  rw[CJ]at aj
  cases sH:ag.df i vs with
  |true=>
   rw[sH]at aj
   cases aw:σ.aA i with
   |none=>rw[aw]at aj;cases aj
   |some cK=>
    rw[aw]at aj;simp only[cond_true,Option.map_some,Option.some.injEq]at aj;subst aj
    exact h.eM i cK aw hi
  |false=>rw[sH]at aj;exact h.eM i b aj hi
 eE:=h.eE
end
end RV
namespace RV
open Go Go.RowKit
section
variable {N:Nat} {aR:e3} {aL:Mem} {R:bU} {σ σ':St} {a:Act} {w:World} {rd:Mem} {β β':bU} {P:Program}
theorem AH {rd:Mem} :∀{ds:List D} {vs:List Value},bP rd ds vs→vs.length=ds.length
 |[],_,H=>by simp only[bP]at H;simp[H]
 |d::ds,_,H=>by
  simp only[bP]at H
  obtain⟨v,us,e,_,h2⟩:=H
  simp[e,AH h2]
theorem AJ {rd:Mem} :∀{ds:List D} {vs:List Value},bP rd ds vs→bY rd β (ds.map .d) vs
 |[],_,H=>by simpa only[bP,List.map_nil,bY]using H
 |d::ds,_,H=>by
  simp only[bP]at H
  obtain⟨v,us,e,h1,h2⟩:=H
  simp only[List.map_cons,bY]
  exact⟨v,us,e,by simpa only[aT]using h1,AJ h2⟩
theorem pG {rd:Mem} {d:D} {u:Value} (h:bj rd d u):aT rd β (c3 d) u:=by
 cases d<;>simp only[c3,aT]<;>try exact h
 rename_i cs
 simp only[bj]at h
 obtain⟨vs,e,H⟩:=h
 exact⟨vs,e,AJ H⟩
theorem XF {rd:Mem} {t:TypeId} {v:Value} {d:D} (h:I1 P t v=some d):bj rd d v:=by
 unfold I1 at h
 split at h
 ·simp only[Option.some.injEq]at h;subst h;simp only[bj]
 ·simp only[Option.some.injEq]at h;subst h;simp only[bj]
 ·split at h
  ·cases h
  ·rename_i b aw
   simp only[Option.some.injEq]at h;subst h
   simp only[bj]
   exact⟨b,rfl,by simp[eL,aw]⟩
 ·cases ad:sF P t with
  |none=>rw[ad]at h;cases h
  |some k=>
   rw[ad]at h
   simp only[Option.map_some,Option.some.injEq]at h
   subst h
   cases k<;>simp only[dM.empty,bj,List.length_nil]<;>exact⟨none,0,rfl,Nat.le_refl _,.inl trivial⟩
 ·simp only[Option.some.injEq]at h;subst h;simp only[bj]
 ·simp only[Option.some.injEq]at h;subst h;simp only[bj]
 ·simp only[Option.some.injEq]at h;subst h;simp only[bj]
 ·simp only[Option.some.injEq]at h;subst h;simp only[bj]
 ·cases h
theorem Qx {rd:Mem} :∀{c1:List TypeId} {vs:List Value} {ds:List D},zz P c1 vs=some ds→bP rd ds vs
 |[],[],ds,h=>by simp only[zz,Option.some.injEq]at h;subst h;simp only[bP]
 |[],_::_,_,h=>by simp[zz]at h
 |_::_,[],_,h=>by simp[zz]at h
 |t::c1,v::vs,ds,h=>by
  simp only[zz]at h
  split at h
  ·rename_i d uq h1 h2
   simp only[Option.some.injEq]at h;subst h
   simp only[bP]
   exact⟨v,vs,rfl,XF h1,Qx h2⟩
  ·cases h
theorem x4 (h:bd N aR aL R σ a w rd β) {t:TypeId} {x:Operand} {l:bk} (ae:k4 P t x=some l):aT rd β (σ.aU l) (a.eval x):=by
 unfold k4 at ae
 split at ae
 ·simp only[Option.some.injEq]at ae;subst ae;exact h.eX _
 ·simp only[Option.some.injEq]at ae;subst ae
  simp only[St.aU,c3,aT,Act.eval,bj]
  exact⟨#[],#[],rfl,by simp only[bP],by simp only[bP]⟩
 ·rename_i cs
  split at ae
  ·rename_i c1 _
   cases ay:zz P c1 cs.toList with
   |none=>rw[ay]at ae;cases ae
   |some ds=>
    rw[ay]at ae
    simp only[Option.map_some,Option.some.injEq]at ae;subst ae
    show aT rd β (c3 (.agg ds)) (.agg cs)
    refine pG ?_
    simp only[bj]
    exact⟨cs,rfl,Qx ay⟩
  ·cases ae
 ·rename_i v _
  cases ay:I1 P t v with
  |none=>rw[ay]at ae;cases ae
  |some d=>
   rw[ay]at ae
   simp only[Option.map_some,Option.some.injEq]at ae;subst ae
   show aT rd β (c3 d) v
   exact pG (XF ay)
 ·cases ae
theorem ez (h:bd N aR aL R σ a w rd β) {x:Operand} {l:bk} (ae:dA P x=some l):aT rd β (σ.aU l) (a.eval x):=by
 unfold dA at ae
 split at ae
 ·cases ae
 ·cases ae
 ·exact x4 h ae
theorem qP (h:bd N aR aL R σ a w rd β):∀{c1:List TypeId} {xs:List Operand} {ls:List bk},iX P c1 xs=some ls→bY rd β (cr σ ls) (xs.map a.eval)
 |_,[],ls,ae=>by
  cases ‹List TypeId› <;>simp only[iX,Option.some.injEq]at ae<;>subst ae<;>simp only[cr,List.map_nil,bY]
 |[],x::xs,ls,ae=>by simp[iX]at ae
 |t::c1,x::xs,ls,ae=>by
  simp only[iX]at ae
  split at ae
  ·rename_i v vs h1 h2
   simp only[Option.some.injEq]at ae;subst ae
   simp only[cr,List.map_cons,bY]
   exact⟨_,_,rfl,x4 h h1,qP h h2⟩
  ·cases ae
theorem gX.sub {m:Mem} {k:IntKind} {b:Nat} :∀{xs:List Int} {o lo:Nat} (n:Nat),gX m k b o xs→gX m k b (o+lo) ((xs.drop lo).take n)
 |[],o,lo,n,_=>by simp[gX]
 |x::xs,o,0,0,_=>by simp[gX]
 |x::xs,o,0,n+1,⟨h1,h2⟩=>by
  have:=gX.sub (lo:=0) n h2
  simp only[List.drop_zero,List.take_succ_cons,Nat.add_zero]at this⊢
  exact⟨h1,this⟩
 |x::xs,o,lo+1,n,⟨_,h2⟩=>by
  have:=gX.sub (lo:=lo) n h2
  simpa [Nat.add_assoc,Nat.add_comm 1 lo]using this
theorem gY.sub {m:Mem} {b:Nat} :∀{xs:List Nat} {o lo:Nat} (n:Nat),gY m b o xs→gY m b (o+lo) ((xs.drop lo).take n)
 |[],o,lo,n,_=>by simp[gY]
 |x::xs,o,0,0,_=>by simp[gY]
 |x::xs,o,0,n+1,⟨h1,h2⟩=>by
  have:=gY.sub (lo:=0) n h2
  simp only[List.drop_zero,List.take_succ_cons,Nat.add_zero]at this⊢
  exact⟨h1,this⟩
 |x::xs,o,lo+1,n,⟨_,h2⟩=>by
  have:=gY.sub (lo:=lo) n h2
  simpa [Nat.add_assoc,Nat.add_comm 1 lo]using this
theorem dd.Jn {b:Nat} {S:Addr→Prop} (hm:b3 rd w.cell?):∀{ds:List D} {o:Nat},(∀i,o≤i→i<o+ds.length→S (cellAt b i))→dd w rd b o ds→gk (plus w S rd) b o ds
 |[],_,_,_=>by simp only[gk]
 |d::ds,o,aE,⟨⟨u,e,H⟩,fb⟩=>by
  simp only[gk]
  exact⟨⟨u,by rw[RL hm (aE o (by omega) (by simp))];exact e,H.mono (oM _ _ _) d u⟩,dd.Jn hm (fun i h1 h2=>aE i (by omega) (by simp;omega)) fb⟩
theorem hX.sub {b sz:Nat} :∀{xs:List (List D)} {o lo:Nat} (n:Nat),hX w rd b sz o xs→hX w rd b sz (o+lo*sz) ((xs.drop lo).take n)
 |[],o,lo,n,_=>by simp[hX]
 |x::xs,o,0,0,_=>by simp[hX]
 |x::xs,o,0,n+1,⟨h0,h1,h2⟩=>by
  have:=hX.sub (lo:=0) n h2
  simp only[List.drop_zero,List.take_succ_cons,Nat.zero_mul,Nat.add_zero]at this⊢
  exact⟨h0,h1,this⟩
 |x::xs,o,lo+1,n,⟨_,_,h2⟩=>by
  have:=hX.sub (lo:=lo) n h2
  have e:o+(lo+1)*sz=o+sz+lo*sz:=by rw[Nat.succ_mul];omega
  rw[e]
  simpa using this
theorem hX.ZP {b sz:Nat} {S:Addr→Prop} (hm:b3 rd w.cell?):∀{rs:List (List D)} {o:Nat},(∀i,o≤i→i<o+rs.length*sz→S (cellAt b i))→hX w rd b sz o rs→gG (plus w S rd) b sz o rs
 |[],_,_,_=>by simp only[gG]
 |r::rs,o,aE,⟨h1,h2,aq⟩=>by
  have e:(r::rs).length*sz=sz+rs.length*sz:=by simp[Nat.succ_mul];omega
  rw[e]at aE
  simp only[gG]
  exact⟨h1,h2.Jn hm fun i a b=>aE i a (by omega),aq.ZP hm fun i a b=>aE i (by omega) (by omega)⟩
theorem c5.Jn {b:Nat} {S:Addr→Prop} (hm:b3 rd w.cell?):∀{cs:List ag} {ds:List D} {o:Nat},u1 cs=some ds→(∀i,o≤i→i<o+cs.length→S (cellAt b i))→c5 w rd β b o cs→gk (plus w S rd) b o ds
 |[],ds,o,aD,_,_=>by simp only[u1,Option.some.injEq]at aD;subst aD;simp only[gk]
 |c::cs,ds,o,aD,aE,⟨⟨u,e,H⟩,fb⟩=>by
  simp only[u1]at aD
  split at aD
  ·rename_i d uq h1 h2
   simp only[Option.some.injEq]at aD;subst aD
   cases c<;>simp only[ag.NP,Option.some.injEq,reduceCtorEq]at h1
   subst h1
   simp only[gk]
   simp only[aT]at H
   exact⟨⟨u,by rw[RL hm (aE o (by omega) (by simp))];exact e,H.mono (oM _ _ _) _ u⟩,c5.Jn hm h2 (fun i h1 h2=>aE i (by omega) (by simp;omega)) fb⟩
  ·cases aD
theorem amC (h:bd N aR aL R σ a w rd β) {i lo n:Nat} {b:cm} (aw:σ.aA i=some b) {d:D} (aD:b.c.part lo n=some d) {u:Value} (hu:aT rd β (.own i lo n) u)
 {S:Addr→Prop} (aE:∀r aP,β i=some r→r.has aP→S aP):bj (plus w S rd) d u:=by
 simp only[aT]at hu
 obtain⟨A,cap,rfl,aJ,hA⟩:=hu
 have fin:∀r,β i=some r→A=some (cellAt r.bL (r.off+lo*r.sz))→bj (plus w S rd) d (.slice A n cap):=by
  intro r ar hA
  obtain⟨fm,cH,ay,aQ,_⟩:=h.box i r ar
  rw[aw]at cH
  simp only[Option.some.injEq]at cH
  subst cH
  have jG:∀k,r.off≤k→k<r.off+r.len→plus w S rd (cellAt r.bL k)=w.cell? (cellAt r.bL k):=fun k h1 h2=>RL h.dg (aE r _ ar ⟨rfl,.inr ⟨h1,h2⟩⟩)
  cases gO:b.c with
  |cells cs=>rw[gO]at aD;simp[BC.part]at aD
  |map n es=>rw[gO]at aD;simp[BC.part]at aD
  |ints k xs=>
   rw[gO]at aD ay
   simp only[BC.part]at aD
   split at aD
   ·rename_i hle
    simp only[Option.some.injEq]at aD;subst aD
    simp only[bj]
    have aH:((xs.drop lo).take n).length=n:=by simp;omega
    rw[aH]
    refine⟨A,cap,rfl,aJ,.inr ⟨_,_,hA,?_⟩⟩
    have:=ay.2.2.sub (lo:=lo) n
    rw[ay.1,Nat.mul_one]
    exact this.cells fun k h1 h2=>jG k (by omega) (by have:=ay.2.1;rw[aH]at h2;omega)
   ·cases aD
  |flts xs=>
   rw[gO]at aD ay
   simp only[BC.part]at aD
   split at aD
   ·rename_i hle
    simp only[Option.some.injEq]at aD;subst aD
    simp only[bj]
    have aH:((xs.drop lo).take n).length=n:=by simp;omega
    rw[aH]
    refine⟨A,cap,rfl,aJ,.inr ⟨_,_,hA,?_⟩⟩
    have:=ay.2.2.sub (lo:=lo) n
    rw[ay.1,Nat.mul_one]
    exact this.cells fun k h1 h2=>jG k (by omega) (by have:=ay.2.1;rw[aH]at h2;omega)
   ·cases aD
  |recs sz xs=>
   rw[gO]at aD ay
   simp only[BC.part]at aD
   split at aD
   ·rename_i hle
    simp only[Option.some.injEq]at aD;subst aD
    simp only[bj]
    have aH:((xs.drop lo).take n).length=n:=by simp;omega
    rw[aH]
    refine⟨A,cap,rfl,aJ,.inr ⟨_,_,hA,?_⟩⟩
    rw[ay.1]
    have:=ay.2.2.sub (lo:=lo) n
    refine this.ZP h.dg fun k h1 h2=>aE r _ ar ⟨rfl,.inr ⟨by show r.off≤k;omega,?_⟩⟩
    rw[aH]at h2
    have aq:lo*sz+n*sz≤xs.length*sz:=by rw[←Nat.add_mul];exact Nat.mul_le_mul_right _ hle
    have:=ay.2.1
    show k<r.off+r.len
    omega
   ·cases aD
 rcases hA with ⟨rfl,rfl⟩|⟨r,ar,hA,_⟩
 ·cases gO:b.c with
  |cells cs=>rw[gO]at aD;simp[BC.part]at aD
  |map n es=>rw[gO]at aD;simp[BC.part]at aD
  |_=>
   rw[gO]at aD
   simp only[BC.part]at aD
   split at aD
   ·simp only[Option.some.injEq]at aD;subst aD
    simp only[bj,List.take_zero,List.length_nil]
    exact⟨A,0,rfl,Nat.le_refl _,.inl trivial⟩
   ·cases aD
 ·exact fin r ar hA
mutual
theorem toD_rep (h:bd N aR aL R σ a w rd β) {S:Addr→Prop} :∀(v:ag) (u:Value) (d:D),toD σ v=some d→aT rd β v u→(∀i r aP,v.has i=true→β i=some r→r.has aP→S aP)→bj (plus w S rd) d u
 | .d x,u,d,aD,hu,_=>by
   simp only[toD,Option.some.injEq]at aD;subst aD
   simp only[aT]at hu
   exact hu.mono (oM _ _ _) _ _
 | .agg cs,u,d,aD,hu,aE=>by
   simp only[toD]at aD
   split at aD
   ·rename_i ds hq
    simp only[Option.some.injEq]at aD;subst aD
    simp only[aT]at hu
    obtain⟨vs,rfl,H⟩:=hu
    simp only[bj]
    exact⟨vs,rfl,toDs_rep h cs _ _ hq H fun i r aP hi=>aE i r aP (by simpa only[ag.has]using hi)⟩
   ·cases aD
 | .own i lo n,u,d,aD,hu,aE=>by
   simp only[toD]at aD
   split at aD
   ·rename_i b aw
    exact amC h aw aD hu fun r aP=>aE i r aP (by simp[ag.has])
   ·cases aD
 | .box i off,u,d,aD,hu,aE=>by
   cases off with
   |succ n=>simp[toD]at aD
   |zero=>
    simp only[toD]at aD
    split at aD
    ·rename_i cx ex cs aw
     split at aD
     ·rename_i ds hq
      simp only[Option.some.injEq]at aD;subst aD
      simp only[aT]at hu
      obtain⟨r,ar,rfl⟩:=hu
      obtain⟨fm,cH,ay,aQ,_⟩:=h.box i r ar
      rw[aw]at cH
      simp only[Option.some.injEq]at cH
      subst cH
      simp only[bj]
      refine⟨_,_,rfl,?_⟩
      exact c5.Jn h.dg hq (fun k h1 h2=>aE i r _ (by simp[ag.has]) ar ⟨rfl,.inr ⟨h1,by have:=ay.1;show k<r.off+r.len;omega⟩⟩) ay.2
     ·cases aD
    ·cases aD
 | .dk f x y,u,d,aD,hu,aE=>by
   simp only[toD]at aD
   split at aD
   ·rename_i d1 d2 h1 h2
    simp only[Option.some.injEq]at aD;subst aD
    simp only[aT]at hu
    obtain⟨gd,vc,rfl,H1,fb⟩:=hu
    simp only[bj]
    exact⟨gd,vc,rfl,toDs_rep h x _ _ h1 H1 fun i r aP hi=>aE i r aP (by simp[ag.has,hi]),toDs_rep h y _ _ h2 fb fun i r aP hi=>aE i r aP (by simp[ag.has,hi])⟩
   ·cases aD
 | .eo _ _ _,_,_,aD,_,_=>by simp[toD]at aD
 | .mp _,_,_,aD,_,_=>by simp[toD]at aD
 | .dv _,_,_,aD,_,_=>by simp[toD]at aD
 | .dB,_,_,aD,_,_=>by simp[toD]at aD
 | .any,_,_,aD,_,_=>by simp[toD]at aD
theorem toDs_rep (h:bd N aR aL R σ a w rd β) {S:Addr→Prop} :∀(vs:List ag) (us:List Value) (ds:List D),toDs σ vs=some ds→bY rd β vs us→(∀i r aP,ag.df i vs=true→β i=some r→r.has aP→S aP)→bP (plus w S rd) ds us
 |[],us,ds,aD,hu,_=>by
  simp only[toDs,Option.some.injEq]at aD;subst aD
  simpa only[bY,bP]using hu
 |v::vs,us,ds,aD,hu,aE=>by
  simp only[toDs]at aD
  split at aD
  ·rename_i d uq h1 h2
   simp only[Option.some.injEq]at aD;subst aD
   simp only[bY]at hu
   obtain⟨u,qh,rfl,H1,fb⟩:=hu
   simp only[bP]
   exact⟨u,qh,rfl,toD_rep h v u d h1 H1 fun i r aP hi=>aE i r aP (by simp[ag.df,hi]),toDs_rep h vs qh uq h2 fb fun i r aP hi=>aE i r aP (by simp[ag.df,hi])⟩
  ·cases aD
end
end
end RV
namespace RV
open Go Go.RowKit
section
variable {N:Nat} {aR:e3} {aL:Mem} {R:bU} {σ σ':St} {a:Act} {w:World} {rd:Mem} {β β':bU} {P:Program} {Γ:Env}
theorem eu {t:TypeId} {d:TypeDesc} (h:P.underlying t=some d) (w:World):(underlying t).run P w= .ok d w:=by
 simp[underlying,h]
theorem MN {t:TypeId} {i:TypeInfo} (h:P.info? t=some i) (w:World):(typeInfo t).run P w= .ok i w:=by
 simp[typeInfo,h]
theorem lW {t:TypeId} {n:Nat} (h:g9 P t=some n) (w:World):(Go.sizeOf t).run P w= .ok n w:=by
 unfold g9 at h
 cases hi:P.info? t with
 |none=>rw[hi]at h;cases h
 |some i=>rw[hi]at h;simp at h;subst h;simp[Go.sizeOf,MN hi]
theorem Q0 {t:TypeId} {n:Nat} {g:Bool} (h:p3 P t=some (n,g)):g9 P t=some n:=by
 unfold p3 at h
 unfold g9
 split at h
 ·rename_i hi;simp only[Option.some.injEq,Prod.mk.injEq]at h;rw[hi,←h.1];rfl
 ·rename_i hi;simp only[Option.some.injEq,Prod.mk.injEq]at h;rw[hi,←h.1];rfl
 ·rename_i hi
  split at h
  ·rename_i h1;simp only[Option.some.injEq,Prod.mk.injEq]at h;rw[hi,←h.1];simp[h1]
  ·cases h
 ·cases h
theorem Rh {t:TypeId} {n:Nat} (h:p3 P t=some (n,false)):n=1:=by
 unfold p3 at h
 split at h
 ·simp at h
 ·simp at h
 ·split at h
  ·simp only[Option.some.injEq,Prod.mk.injEq]at h;exact h.1.symm
  ·cases h
 ·cases h
theorem Mz {t:TypeId} {n:Nat} {g:Bool} (h:p3 P t=some (n,g)) (w:World):(isAgg t).run P w= .ok g w:=by
 unfold p3 at h
 split at h
 ·rename_i hu _;simp only[Option.some.injEq,Prod.mk.injEq]at h;simp[isAgg,eu hu,←h.2]
 ·rename_i hu _;simp only[Option.some.injEq,Prod.mk.injEq]at h;simp[isAgg,eu hu,←h.2]
 ·rename_i d i h1 h2 hu _
  split at h
  ·simp only[Option.some.injEq,Prod.mk.injEq]at h
   have e:=h.2
   cases d<;>first
    |exact(h1 _ rfl).elim
    |exact(h2 _ _ rfl).elim
    |simp[isAgg,eu hu,←e]
  ·cases h
 ·cases h
theorem x5 (b o i:Nat):(cellAt b o).add i=cellAt b (o+i):=by
 unfold Addr.add cellAt
 split
 ·rename_i h;simp[h]
 ·rfl
def Yields (P:Program) (N:Nat) (aR:e3) (aL:Mem) (R:bU) (σ:St) (a:Act) (w:World) (β:bU) (s:Sem Value) (K:ag→Prop):Prop:=
 ∃av u w' rd',K av∧bd N aR aL R σ a w' rd' β∧aT rd' β av u∧s.run P w= .ok u w'
theorem Yields.here {s:Sem Value} {K:ag→Prop} (h:bd N aR aL R σ a w rd β) {av:ag} {u:Value} (ad:K av) (ar:aT rd β av u) (aE:s.run P w= .ok u w):
 Yields P N aR aL R σ a w β s K:=⟨av,u,w,rd,ad,h,ar,aE⟩
theorem WW {b:Nat} :∀(n o i:Nat) (acc:Array Value) (us:List Value),us.length=n→(∀j,j<n→w.cell? (cellAt b (o+i+j))=us[j]?)→
 (loadCellsFrom (cellAt b o) i n acc).run P w= .ok (acc++us.toArray) w
 |0,o,i,acc,us,aH,_=>by
  have:us=[]:=List.eq_nil_of_length_eq_zero aH
  subst this
  simp[loadCellsFrom]
 |n+1,o,i,acc,[],aH,_=>by simp at aH
 |n+1,o,i,acc,u::us,aH,ay=>by
  have h0:=ay 0 (by omega)
  simp only[Nat.add_zero,List.getElem?_cons_zero]at h0
  have cJ:=WW n o (i+1) (acc.push u) us (by simpa using aH) (fun j aF=>by
   have:=ay (j+1) (by omega)
   rw[List.getElem?_cons_succ]at this
   rw[←this];congr 2;omega)
  simp only[loadCellsFrom,Sem.run_bind,x5,run_load,h0,Result.andThen_ok]
  rw[cJ]
  simp
theorem c5.Jy {b:Nat} :∀{cs:List ag} {o:Nat},c5 w rd β b o cs→∃us:List Value,bY rd β cs us∧us.length=cs.length∧∀j,j<cs.length→w.cell? (cellAt b (o+j))=us[j]?
 |[],_,_=>⟨[],by simp only[bY],rfl,fun j aF=>by simp at aF⟩
 |c::cs,o,⟨⟨u,e,H⟩,fb⟩=>by
  obtain⟨us,h1,h2,aq⟩:=c5.Jy fb
  refine⟨u::us,by simp only[bY];exact⟨u,us,rfl,H,h1⟩,by simp[h2],fun j aF=> ?_⟩
  cases j with
  |zero=>simpa using e
  |succ j=>rw[List.getElem?_cons_succ,←aq j (by simpa using aF)];congr 2;omega
theorem c5.drop {b:Nat} :∀{cs:List ag} {o:Nat} (k:Nat),c5 w rd β b o cs→c5 w rd β b (o+k) (cs.drop k)
 |cs,o,0,h=>by simpa using h
 |[],o,k+1,_=>by simp[c5]
 |c::cs,o,k+1,⟨_,h⟩=>by
  have:=c5.drop k h
  simpa [Nat.add_assoc,Nat.add_comm 1 k]using this
theorem c5.take {b:Nat} :∀{cs:List ag} {o:Nat} (k:Nat),c5 w rd β b o cs→c5 w rd β b o (cs.take k)
 |cs,o,0,_=>by simp[c5]
 |[],o,k+1,_=>by simp[c5]
 |c::cs,o,k+1,⟨h0,h⟩=>by
  simp only[List.take_succ_cons,c5]
  exact⟨h0,c5.take k h⟩
theorem c5.get {b:Nat} {cs:List ag} {o k:Nat} (h:c5 w rd β b o cs) {v:ag} (aB:cs[k]? =some v):∃u,w.cell? (cellAt b (o+k))=some u∧aT rd β v u:=by
 have ad:k<cs.length:=by
  rcases Nat.lt_or_ge k cs.length with h|h
  ·exact h
  ·rw[List.getElem?_eq_none h]at aB;cases aB
 have h2:=h.drop k
 have e:cs.drop k=v::cs.drop (k+1):=by
  rw[List.drop_eq_getElem_cons ad]
  rw[List.getElem?_eq_getElem ad]at aB
  simp only[Option.some.injEq]at aB
  rw[aB]
 rw[e]at h2
 exact h2.1
theorem Mj {t:TypeId} {n:Nat} {g:Bool} (ae:p3 P t=some (n,g)) {b o:Nat} {cs:List ag} (h:c5 w rd β b o cs) (aH:cs.length=n):
 ∃u,(Instr.loadAt t (.pointer (some (cellAt b o)))).run P w= .ok u w∧(g=true→aT rd β (.agg cs) u)∧(g=false→∀c,cs=[c]→aT rd β c u):=by
 obtain⟨us,h1,h2,aq⟩:=h.Jy
 cases g with
 |true=>
  refine⟨.agg us.toArray,?_,fun _=>by simp only[aT];exact⟨us.toArray,rfl,by simpa using h1⟩,(fun e=>by cases e)⟩
  have ar:=WW (P:=P) (w:=w) (b:=b) n o 0 #[] us (by omega) (fun j aF=>by simpa using aq j (by omega))
  simp only[Instr.loadAt,Instr.sureAddr,loadVar,Sem.run_bind,Sem.run_pure,Result.andThen_ok,Mz ae,if_true,lW (Q0 ae),loadCells,ar]
  simp
 |false=>
  have aJ:=Rh ae
  subst aJ
  match cs,us,aH,h1,aq with
  |[c],us,_,h1,aq=>
   simp only[bY]at h1
   obtain⟨u,qh,rfl,H,rfl⟩:=h1
   refine⟨u,?_,(fun e=>by cases e),fun _ c' cZ=>by simp at cZ;subst cZ;exact H⟩
   have:=aq 0 (by simp)
   simp only[Nat.add_zero,List.getElem?_cons_zero]at this
   simp only[Instr.loadAt,Instr.sureAddr,loadVar,Sem.run_bind,Sem.run_pure,Result.andThen_ok,Mz ae,Bool.false_eq_true,if_false,run_load,this]
theorem c5.Ri {b:Nat} (hm:b3 rd w.cell?):∀{ds:List D} {o:Nat},gk rd b o ds→c5 w rd β b o (ds.map .d)
 |[],_,_=>trivial
 |d::ds,o,h=>by
  simp only[gk]at h
  obtain⟨⟨v,e,H⟩,fb⟩:=h
  exact⟨⟨v,hm _ _ e,by simpa only[aT]using H⟩,c5.Ri hm fb⟩
theorem c5.X8 {b:Nat} :∀{ds:List D} {o:Nat},dd w rd b o ds→c5 w rd β b o (ds.map .d)
 |[],_,_=>trivial
 |d::ds,o,⟨⟨u,e,H⟩,fb⟩=>⟨⟨u,e,by simpa only[aT]using H⟩,c5.X8 fb⟩
theorem gX.getD {m:Mem} {k:IntKind} {b:Nat} :∀{xs:List Int} {o j:Nat},gX m k b o xs→j<xs.length→m (cellAt b (o+j))=some (.int k (xs.getD j 0))
 |x::xs,o,0,⟨h,_⟩,_=>by simpa using h
 |x::xs,o,j+1,⟨_,h⟩,aF=>by
  have:=gX.getD (j:=j) h (by simpa using aF)
  rw[List.getD_cons_succ,←this];congr 2;omega
theorem gY.getD {m:Mem} {b:Nat} :∀{xs:List Nat} {o j:Nat},gY m b o xs→j<xs.length→∃y,m (cellAt b (o+j))=some (.float .f64 y)∧eL y=xs.getD j 0
 |x::xs,o,0,⟨h,_⟩,_=>by simpa using h
 |x::xs,o,j+1,⟨_,h⟩,aF=>by
  obtain⟨y,h1,h2⟩:=gY.getD (j:=j) h (by simpa using aF)
  refine⟨y,?_,by rw[List.getD_cons_succ];exact h2⟩
  rw[←h1];congr 2;omega
theorem hX.getD {b sz:Nat} :∀{rs:List (List D)} {o j:Nat},hX w rd b sz o rs→j<rs.length→(rs.getD j []).length=sz∧dd w rd b (o+j*sz) (rs.getD j [])
 |r::rs,o,0,⟨h0,h1,_⟩,_=>by simpa using ⟨h0,h1⟩
 |r::rs,o,j+1,⟨_,_,h⟩,aF=>by
  obtain⟨h1,h2⟩:=hX.getD (j:=j) h (by simpa using aF)
  rw[List.getD_cons_succ]
  exact⟨h1,by rw[show o+(j+1)*sz=o+sz+j*sz from by rw[Nat.succ_mul];omega];exact h2⟩
theorem aj0 {t:TypeId} {n:Nat} {g:Bool} (ae:p3 P t=some (n,g)) (h:bd N aR aL R σ a w rd β) {v:ag} {u:Value} (hu:aT rd β v u) {K:ag→Prop} (ad:k8 σ n g v K):
 Yields P N aR aL R σ a w β (Instr.loadAt t u) K:=by
 have one:∀{b o:Nat} {c:ag},g=false→K c→c5 w rd β b o [c]→Yields P N aR aL R σ a w β (Instr.loadAt t (.pointer (some (cellAt b o)))) K:=by
  intro b o c bb ay H
  subst bb
  obtain⟨x,h1,_,h2⟩:=Mj ae H (by rw[Rh ae];rfl)
  exact Yields.here h ay (h2 rfl c rfl) h1
 have many:∀{b o:Nat} {cs:List ag},g=true→K (.agg cs)→cs.length=n→c5 w rd β b o cs→Yields P N aR aL R σ a w β (Instr.loadAt t (.pointer (some (cellAt b o)))) K:=by
  intro b o cs bb ay aH H
  subst bb
  obtain⟨x,h1,h2,_⟩:=Mj ae H aH
  exact Yields.here h ay (h2 rfl) h1
 unfold k8 at ad
 split at ad
 ·rename_i cs
  simp only[aT,bj]at hu
  obtain⟨b,o,rfl,H⟩:=hu
  have H:=c5.Ri (β:=β) h.dg H
  cases bb:g with
  |true=>
   rw[bb]at ad
   simp only[if_true]at ad
   have fb:=H.take n
   rw[←List.map_take]at fb
   exact many bb ad.2 (by simp;omega) fb
  |false=>
   rw[bb]at ad
   simp only[Bool.false_eq_true,if_false]at ad
   cases cs with
   |nil=>exact ad.elim
   |cons d ds=>exact one bb ad ⟨H.1,trivial⟩
 ·rename_i i off
  simp only[aT]at hu
  obtain⟨r,ar,rfl⟩:=hu
  split at ad
  ·rename_i cx ex cs aw
   obtain⟨fm,cH,ay,aQ,_⟩:=h.box i r ar
   rw[aw]at cH
   simp only[Option.some.injEq]at cH
   subst cH
   cases bb:g with
   |true=>
    rw[bb]at ad
    simp only[if_true]at ad
    exact many bb ad.2 (by simp;omega) ((ay.2.drop off).take n)
   |false=>
    rw[bb]at ad
    simp only[Bool.false_eq_true,if_false]at ad
    split at ad
    ·rename_i v aB
     obtain⟨x,h1,h2⟩:=ay.2.get aB
     exact one bb ad ⟨⟨x,h1,h2⟩,trivial⟩
    ·exact ad.elim
  ·exact ad.elim
 ·rename_i i j off
  simp only[aT]at hu
  obtain⟨r,ar,rfl⟩:=hu
  obtain⟨fm,cH,ay,aQ,_⟩:=h.box i r ar
  split at ad
  ·rename_i cx ex k xs aw
   rw[aw]at cH
   simp only[Option.some.injEq]at cH
   subst cH
   obtain⟨rfl,bb,aF,ad⟩:=ad
   refine one bb ad ⟨⟨.int k (xs.getD j 0),?_,by simp only[aT,bj]⟩,trivial⟩
   have:=ay.2.2.getD aF
   rw[ay.1];simpa using this
  ·rename_i cx ex xs aw
   rw[aw]at cH
   simp only[Option.some.injEq]at cH
   subst cH
   obtain⟨rfl,bb,aF,ad⟩:=ad
   obtain⟨y,h1,h2⟩:=ay.2.2.getD aF
   refine one bb ad ⟨⟨.float .f64 y,?_,by simp only[aT,bj];exact⟨y,rfl,h2⟩⟩,trivial⟩
   rw[ay.1];simpa using h1
  ·rename_i cx ex sz xs aw
   rw[aw]at cH
   simp only[Option.some.injEq]at cH
   subst cH
   obtain⟨aF,ad⟩:=ad
   obtain⟨aH,aD⟩:=ay.2.2.getD aF
   have H:=c5.X8 (β:=β) aD
   rw[ay.1]
   cases bb:g with
   |true=>
    rw[bb]at ad
    simp only[if_true]at ad
    have fb:=(H.drop off).take n
    rw[←List.map_drop,←List.map_take]at fb
    exact many bb ad.2 (by rw[List.length_map,List.length_take,List.length_drop];omega) fb
   |false=>
    rw[bb]at ad
    simp only[Bool.false_eq_true,if_false]at ad
    split at ad
    ·rename_i d lu
     obtain⟨x,h1,h2⟩:=H.get (k:=off) (v:= .d d) (by rw[List.getElem?_map,lu];rfl)
     exact one bb ad ⟨⟨x,h1,h2⟩,trivial⟩
    ·exact ad.elim
  ·exact ad.elim
 ·exact ad.elim
end
end RV
namespace RV
open Go Go.RowKit
theorem XG:(Ieee.double.read E6).isNaN=true:=by decide
theorem Ib {b:Nat} (h:(Ieee.double.read b).isNaN=true):eL b=E6:=by simp[eL,h]
theorem Mk {b:Nat} (h:(Ieee.double.read b).isNaN=false):eL b=b:=by simp[eL,h]
theorem W8 (b:Nat):(Ieee.double.read (eL b)).isNaN=(Ieee.double.read b).isNaN:=by
 cases h:(Ieee.double.read b).isNaN
 ·rw[Mk h,h]
 ·rw[Ib h,XG]
theorem zw {d:Ieee.Datum} (h:d.isNaN=true):∃s t,d= .nan s t:=by
 cases d<;>simp[Ieee.Datum.isNaN]at h;exact⟨_,_,rfl⟩
theorem X9 {d e:Ieee.Datum} (h:d.isNaN=true):d.sum e=none:=by obtain⟨s,t,rfl⟩:=zw h;rfl
theorem Ya {d e:Ieee.Datum} (h:e.isNaN=true):d.sum e=none:=by obtain⟨s,t,rfl⟩:=zw h;cases d<;>rfl
theorem aks {d e:Ieee.Datum} (h:d.isNaN=true):d.product e=none:=by obtain⟨s,t,rfl⟩:=zw h;rfl
theorem akt {d e:Ieee.Datum} (h:e.isNaN=true):d.product e=none:=by obtain⟨s,t,rfl⟩:=zw h;cases d<;>rfl
theorem aku {n:Nat} {d e:Ieee.Datum} (h:d.isNaN=true):d.quotient n e=none:=by obtain⟨s,t,rfl⟩:=zw h;rfl
theorem akv {n:Nat} {d e:Ieee.Datum} (h:e.isNaN=true):d.quotient n e=none:=by obtain⟨s,t,rfl⟩:=zw h;cases d<;>rfl
theorem aj1 {d e:Ieee.Datum} (h:d.isNaN=true):d.order e=none:=by obtain⟨s,t,rfl⟩:=zw h;rfl
theorem aj2 {d e:Ieee.Datum} (h:e.isNaN=true):d.order e=none:=by obtain⟨s,t,rfl⟩:=zw h;cases d<;>rfl
theorem aog {d:Ieee.Datum} (h:d.isNaN=true):d.opposite.isNaN=true:=by obtain⟨s,t,rfl⟩:=zw h;rfl
theorem I4 {α:Type} (f:Ieee.Datum→Ieee.Datum→Option α) (aH:∀d e,d.isNaN=true→f d e=none) (ar:∀d e,e.isNaN=true→f d e=none) (x y:Nat):
 f (Ieee.double.read (eL x)) (Ieee.double.read (eL y))=f (Ieee.double.read x) (Ieee.double.read y):=by
 cases aj:(Ieee.double.read x).isNaN
 ·cases hy:(Ieee.double.read y).isNaN
  ·rw[Mk aj,Mk hy]
  ·rw[ar _ _ hy,ar _ _ (by rw[W8];exact hy)]
 ·rw[aH _ _ aj,aH _ _ (by rw[W8];exact aj)]
theorem alp (x y:Nat):Ieee.double.add (eL x) (eL y)=Ieee.double.add x y:=
 I4 (fun d e=>(d.sum e).map Ieee.double.write) (fun _ _ h=>by simp[X9 h]) (fun _ _ h=>by simp[Ya h]) x y
theorem alq (x y:Nat):Ieee.double.sub (eL x) (eL y)=Ieee.double.sub x y:=
 I4 (fun d e=>(d.sum e.opposite).map Ieee.double.write) (fun _ _ h=>by simp[X9 h]) (fun _ _ h=>by simp[Ya (aog h)]) x y
theorem alr (x y:Nat):Ieee.double.mul (eL x) (eL y)=Ieee.double.mul x y:=
 I4 (fun d e=>(d.product e).map Ieee.double.write) (fun _ _ h=>by simp[aks h]) (fun _ _ h=>by simp[akt h]) x y
theorem als (x y:Nat):Ieee.double.div (eL x) (eL y)=Ieee.double.div x y:=
 I4 (fun d e=>(d.quotient 54 e).map Ieee.double.write) (fun _ _ h=>by simp[aku h]) (fun _ _ h=>by simp[akv h]) x y
theorem aj3 (x y:Nat):Ieee.double.order (eL x) (eL y)=Ieee.double.order x y:=
 I4 (fun d e=>d.order e) (fun _ _ h=>aj1 h) (fun _ _ h=>aj2 h) x y
theorem Xj {b:Nat} (h:9218868437227405312<b % 9223372036854775808):(Ieee.double.read b).isNaN=true:=by
 have aN:Ieee.double.signWeight=9223372036854775808:=by decide
 have aX:Ieee.double.infRung=9218868437227405312:=by decide
 have cc:Ieee.double.binade=4503599627370496:=by decide
 unfold Ieee.Format.read
 simp only[aN,aX,cc]
 rw[if_neg (by omega),if_neg (by omega),if_neg (by omega)]
 rfl
theorem aj4 {b:Nat} (h:(Ieee.double.read b).isNaN=true):9218868437227405312<b % 9223372036854775808:=by
 have aN:Ieee.double.signWeight=9223372036854775808:=by decide
 have aX:Ieee.double.infRung=9218868437227405312:=by decide
 have cc:Ieee.double.binade=4503599627370496:=by decide
 unfold Ieee.Format.read at h
 simp only[aN,aX,cc]at h
 split at h
 ·simp[Ieee.Datum.isNaN]at h
 ·split at h
  ·simp[Ieee.Datum.isNaN]at h
  ·split at h
   ·simp[Ieee.Datum.isNaN]at h
   ·omega
theorem alu (t:Nat):(Ieee.double.read ((t % 2)*2^63+0x7ff0000000000000+1+(t / 2) % (2^52 - 1))).isNaN=true:=by
 refine Xj ?_
 have:=Nat.mod_lt (t / 2) (show 0<2^52 - 1 by decide)
 have:=Nat.mod_lt t (show 0<2 by decide)
 generalize t % 2=x at*
 generalize (t / 2) % (2^52 - 1)=y at*
 have aj:x=0∨x=1:=by omega
 rcases aj with rfl|rfl<;>omega
theorem alv (b:Nat):eL (Op.negFloat .f64 b)=hb (eL b):=by
 unfold hb
 cases h:(Ieee.double.read b).isNaN
 ·rw[Mk h]
 ·rw[Ib h]
  have key:∀c,(Ieee.double.read c).isNaN=true→(Ieee.double.read (Op.negFloat .f64 c)).isNaN=true:=by
   intro c ay
   refine Xj ?_
   have h1:=aj4 ay
   have e:Op.negFloat .f64 c=c^^^2^63:=rfl
   rw[e,show (9223372036854775808:Nat)=2^63 by decide,Nat.xor_mod_two_pow,Nat.mod_self,Nat.xor_zero]
   exact h1
  rw[Ib (key b h),Ib (key E6 XG)]
section
variable {N:Nat} {aR:e3} {aL:Mem} {R:bU} {σ σ':St} {a:Act} {w:World} {rd:Mem} {β β':bU} {P:Program} {Γ:Env}
theorem Yields.int {s:Sem Value} {K:ag→Prop} (h:bd N aR aL R σ a w rd β) {k:IntKind} {n:Int} (ad:K (.d (.int k n))) (aE:s.run P w= .ok (.int k n) w):Yields P N aR aL R σ a w β s K:=
 Yields.here h ad (by simp only[aT,bj]) aE
theorem Yields.bool {s:Sem Value} {K:ag→Prop} (h:bd N aR aL R σ a w rd β) {b:Bool} (ad:K (.d (.bool b))) (aE:s.run P w= .ok (.bool b) w):Yields P N aR aL R σ a w β s K:=
 Yields.here h ad (by simp only[aT,bj]) aE
theorem Ct {k:IntKind} {z:Int} {K:ag→Prop} (h:bd N aR aL R σ a w rd β) (ad:arith k z K) {s:Sem Value} (aE:s.run P w= .ok (.int k (k.wrap z)) w):
 Yields P N aR aL R σ a w β s K:=by
 unfold arith at ad
 split at ad
 ·rw[IntWalk.i64_in z ad.1]at aE
  exact Yields.int h ad.2 aE
 ·exact Yields.int h ad aE
theorem aj5 {op:BinOp} {t:TypeId} {k cX:IntKind} {x y:Int} {K:ag→Prop} (h:bd N aR aL R σ a w rd β) (qi:k=cX∨op= .shl∨op= .shr) (ad:E7 op k x y K):
 Yields P N aR aL R σ a w β (binOp op t (.int k x) (.int cX y)) K:=by
 cases op<;>simp only[reduceCtorEq,or_false,or_self,or_true]at qi<;>(try subst qi)<;>simp only[E7]at ad
 case add=>exact Ct h ad (by simp[binOp,Op.intArith])
 case sub=>exact Ct h ad (by simp[binOp,Op.intArith])
 case mul=>exact Ct h ad (by simp[binOp,Op.intArith])
 case quo=>exact Ct h ad.2 (by simp[binOp,Op.intDiv,ad.1])
 case rem=>exact Yields.int h ad.2 (by simp[binOp,Op.intDiv,ad.1])
 case and=>exact Yields.int h ad (by simp[binOp,Op.intBits,iH])
 case or=>exact Yields.int h ad (by simp[binOp,Op.intBits,vF])
 case xor=>exact Yields.int h ad (by simp[binOp,Op.intBits,abD])
 case andNot=>exact Yields.int h ad (by simp[binOp,Op.intBits,CF])
 case shl=>exact Ct h ad.2 (by simp[binOp,Op.shift,show¬y<0 by omega])
 case shr=>exact Yields.int h ad.2 (by simp[binOp,Op.shift,show¬y<0 by omega])
 case eql=>exact Yields.bool h ad (by simp[binOp,Op.intCmp])
 case neq=>exact Yields.bool h ad (by simp[binOp,Op.intCmp])
 case lss=>exact Yields.bool h ad (by simp[binOp,Op.intCmp])
 case leq=>exact Yields.bool h ad (by simp[binOp,Op.intCmp])
 case gtr=>exact Yields.bool h ad (by simp[binOp,Op.intCmp])
 case geq=>exact Yields.bool h ad (by simp[binOp,Op.intCmp])
theorem bd.drew (h:bd N aR aL R σ a w rd β):bd N aR aL R σ a w.drew rd β:=
 h.more (Below.refl _ _).drew (b3.refl _) (fun a v e=>h.dg a v e) (fun _ _ e _=>e)
def Eo (P:Program) (x y:Nat) (r:Option Nat) (w:World):Result Value:=
 match r with
 |some r=> .ok (.float .f64 r) w
 |none=>((choose (.nanBits .f64 x y)).run P w).andThen fun n w=> .ok (.float .f64 n) w
theorem L7 {op:BinOp} {x y:Nat} {r:Option Nat} {K:ag→Prop} (h:bd N aR aL R σ a w rd β) (ad:K (.d (.flt (uk r))))
 (aE:∀w,(Op.floatArith op .f64 x y).run P w=Eo P x y r w):
 Yields P N aR aL R σ a w β (Op.floatArith op .f64 x y) K:=by
 cases r with
 |some r=>exact Yields.here h ad (by simp only[aT,bj];exact⟨r,rfl,rfl⟩) (aE w)
 |none=>
  refine⟨.d (.flt (uk none)),.float .f64 ((Question.nanBits .f64 x y).cut (w.tape w.drawn (.nanBits .f64 x y))),w.drew,rd,ad,h.drew,?_,?_⟩
  ·simp only[aT,bj,Question.cut]
   exact⟨_,rfl,by rw[Ib (alu _)];rfl⟩
  ·rw[aE]
   simp only[Eo,run_choose,Question.forced]
   rfl
theorem aj6 {op:BinOp} {t:TypeId} {x y cM eY:Nat} {K:ag→Prop} (h:bd N aR aL R σ a w rd β) (aj:eL cM=x) (hy:eL eY=y) (ad:E8 op x y K):
 Yields P N aR aL R σ a w β (binOp op t (.float .f64 cM) (.float .f64 eY)) K:=by
 subst aj hy
 have cmp:∀{c:Bool},K (.d (.bool c))→(Op.floatCmp op .f64 cM eY).run P w= .ok (.bool c) w→binOp op t (.float .f64 cM) (.float .f64 eY)=Op.floatCmp op .f64 cM eY→
  Yields P N aR aL R σ a w β (binOp op t (.float .f64 cM) (.float .f64 eY)) K:=by
  intro c h1 h2 aq
  rw[aq]
  exact Yields.bool h h1 h2
 have bz:=aj3 cM eY
 cases op<;>simp only[E8]at ad
 case add=>
  have cE:K (.d (.flt (uk (Ieee.double.add cM eY)))):=by unfold abE at ad;rw[alp]at ad;exact ad
  show Yields P N aR aL R σ a w β (Op.floatArith .add .f64 cM eY) K
  refine L7 (r:=Ieee.double.add cM eY) h cE (fun w=> ?_)
  simp only[Op.floatArith,FloatKind.format]
  cases Ieee.double.add cM eY<;>simp[Eo]
 case sub=>
  have cE:K (.d (.flt (uk (Ieee.double.sub cM eY)))):=by unfold abF at ad;rw[alq]at ad;exact ad
  show Yields P N aR aL R σ a w β (Op.floatArith .sub .f64 cM eY) K
  refine L7 (r:=Ieee.double.sub cM eY) h cE (fun w=> ?_)
  simp only[Op.floatArith,FloatKind.format]
  cases Ieee.double.sub cM eY<;>simp[Eo]
 case mul=>
  have cE:K (.d (.flt (uk (Ieee.double.mul cM eY)))):=by unfold Bp at ad;rw[alr]at ad;exact ad
  show Yields P N aR aL R σ a w β (Op.floatArith .mul .f64 cM eY) K
  refine L7 (r:=Ieee.double.mul cM eY) h cE (fun w=> ?_)
  simp only[Op.floatArith,FloatKind.format]
  cases Ieee.double.mul cM eY<;>simp[Eo]
 case quo=>
  have cE:K (.d (.flt (uk (Ieee.double.div cM eY)))):=by unfold fdiv at ad;rw[als]at ad;exact ad
  show Yields P N aR aL R σ a w β (Op.floatArith .quo .f64 cM eY) K
  refine L7 (r:=Ieee.double.div cM eY) h cE (fun w=> ?_)
  simp only[Op.floatArith,FloatKind.format]
  cases Ieee.double.div cM eY<;>simp[Eo]
 case eql=>exact cmp ad (by unfold cW;rw[bz];simp[Op.floatCmp,FloatKind.format]) rfl
 case neq=>exact cmp ad (by unfold cW;rw[bz];simp[Op.floatCmp,FloatKind.format,bne]) rfl
 case lss=>exact cmp ad (by unfold flt;rw[bz];simp[Op.floatCmp,FloatKind.format]) rfl
 case leq=>exact cmp ad (by unfold BL;rw[bz];simp[Op.floatCmp,FloatKind.format]) rfl
 case gtr=>exact cmp ad (by unfold um;rw[bz];simp[Op.floatCmp,FloatKind.format]) rfl
 case geq=>exact cmp ad (by unfold Ku;rw[bz];simp[Op.floatCmp,FloatKind.format]) rfl
end
end RV
namespace RV
open Go Go.RowKit
section
variable {N:Nat} {aR:e3} {aL:Mem} {R:bU} {σ σ':St} {a:Act} {w:World} {rd:Mem} {β β':bU} {P:Program} {Γ:Env}
theorem gG.getD {m:Mem} {b sz:Nat} :∀{rs:List (List D)} {o j:Nat},gG m b sz o rs→j<rs.length→gk m b (o+j*sz) (rs.getD j [])
 |r::rs,o,0,h,_=>by simp only[gG]at h;simpa using h.2.1
 |r::rs,o,j+1,h,aF=>by
  simp only[gG]at h
  have:=gG.getD (j:=j) h.2.2 (by simpa using aF)
  rw[List.getD_cons_succ]
  rw[show o+(j+1)*sz=o+sz+j*sz from by rw[Nat.succ_mul];omega];exact this
theorem gG.sub {m:Mem} {b sz:Nat} :∀{xs:List (List D)} {o lo:Nat} (n:Nat),gG m b sz o xs→gG m b sz (o+lo*sz) ((xs.drop lo).take n)
 |[],o,lo,n,_=>by simp[gG]
 |x::xs,o,0,0,_=>by simp[gG]
 |x::xs,o,0,n+1,h=>by
  simp only[gG]at h
  have:=gG.sub (lo:=0) n h.2.2
  simp only[List.drop_zero,List.take_succ_cons,Nat.zero_mul,Nat.add_zero,gG]at this⊢
  exact⟨h.1,h.2.1,this⟩
 |x::xs,o,lo+1,n,h=>by
  simp only[gG]at h
  have:=gG.sub (lo:=lo) n h.2.2
  have e:o+(lo+1)*sz=o+sz+lo*sz:=by rw[Nat.succ_mul];omega
  rw[e]
  simpa using this
theorem gk.drop {m:Mem} {b:Nat} :∀{ds:List D} {o:Nat} (k:Nat),gk m b o ds→gk m b (o+k) (ds.drop k)
 |ds,o,0,h=>by simpa using h
 |[],o,k+1,_=>by simp[gk]
 |d::ds,o,k+1,h=>by
  simp only[gk]at h
  have:=gk.drop k h.2
  simpa [Nat.add_assoc,Nat.add_comm 1 k]using this
theorem Mc {t e:TypeId} {n:Nat} (hu:P.underlying t=some (.slice e)) (aE:g9 P e=some n) {k:IntKind} {i:Int} {b o len cap:Nat} (h0:0≤i) (h1:i<len):
 (Instr.indexAt t (.slice (some (cellAt b o)) len cap) (.int k i)).run P w= .ok (.pointer (some (cellAt b (o+i.toNat*n)))) w:=by
 simp[Instr.indexAt,asIntOf,eu hu,h0,h1,lW aE,x5]
theorem ajN {t e:TypeId} {n:Nat} (hu:P.underlying t=some (.slice e)) (aE:g9 P e=some n) (h:bd N aR aL R σ a w rd β) {v:ag} {u:Value} (aB:aT rd β v u)
 {k:IntKind} {i:Int} {K:ag→Prop} (ad:zF σ n v i K):Yields P N aR aL R σ a w β (Instr.indexAt t u (.int k i)) K:=by
 unfold zF at ad
 split at ad
 ·rename_i cX xs
  obtain⟨rfl,h0,h1,ad⟩:=ad
  simp only[aT,bj]at aB
  obtain⟨A,cap,rfl,_,hA⟩:=aB
  rcases hA with rfl|⟨b,o,rfl,H⟩
  ·simp at h1;omega
  ·refine Yields.here h ad ?_ (Mc hu aE h0 h1)
   simp only[aT,bj,gk]
   exact⟨b,_,rfl,⟨_,by rw[Nat.mul_one];exact H.getD (by omega),rfl⟩,trivial⟩
 ·rename_i xs
  obtain⟨rfl,h0,h1,ad⟩:=ad
  simp only[aT,bj]at aB
  obtain⟨A,cap,rfl,_,hA⟩:=aB
  rcases hA with rfl|⟨b,o,rfl,H⟩
  ·simp at h1;omega
  ·refine Yields.here h ad ?_ (Mc hu aE h0 h1)
   simp only[aT,bj,gk]
   obtain⟨y,h2,aq⟩:=H.getD (j:=i.toNat) (by omega)
   exact⟨b,_,rfl,⟨_,by rw[Nat.mul_one];exact h2,y,rfl,aq⟩,trivial⟩
 ·rename_i z xs
  obtain⟨rfl,h0,h1,ad⟩:=ad
  simp only[aT,bj]at aB
  obtain⟨A,cap,rfl,_,hA⟩:=aB
  rcases hA with rfl|⟨b,o,rfl,H⟩
  ·simp at h1;omega
  ·refine Yields.here h ad ?_ (Mc hu aE h0 h1)
   simp only[aT,bj]
   exact⟨b,_,rfl,H.getD (by omega)⟩
 ·rename_i j lo m
  obtain⟨fQ,h0,h1,ad⟩:=ad
  simp only[aT]at aB
  obtain⟨A,cap,rfl,aJ,hA⟩:=aB
  rcases hA with ⟨rfl,_⟩|⟨r,ar,rfl,_⟩
  ·omega
  ·obtain⟨fm,cH,ay,_⟩:=h.box j r ar
   refine Yields.here h ad ?_ (Mc hu aE h0 h1)
   have fD:r.sz=n:=by
    rw[cH]at fQ
    cases fm with
    |mk f e c=>cases c<;>simp only[p2,Option.some.injEq,reduceCtorEq]at fQ<;>(rw[←fQ];exact ay.1)
   simp only[aT]
   exact⟨r,ar,by rw[fD,Nat.add_zero,Nat.add_mul,Nat.add_assoc]⟩
 ·exact ad.elim
def S2 (d n:Int):Option Value→Prop
 |none=>n=d
 |some x=>∃k,x= .int k n
def I5 (rd:Mem) (β:bU):Option ag→Option Value→Prop
 |none,none=>True
 |some v,some x=>aT rd β v x
 |_,_=>False
theorem AK {x:Option Value} {d:Int} {K:Int→Prop} {v:Option ag} (aB:I5 rd β v x) (ad:bound d v K):
 ∃n,K n∧S2 d n x:=by
 unfold bound at ad
 split at ad
 ·cases x with
  |none=>exact⟨d,ad,rfl⟩
  |some x=>exact aB.elim
 ·rename_i k n
  cases x with
  |none=>exact aB.elim
  |some x=>simp only[I5,aT,bj]at aB;exact⟨n,ad,k,aB⟩
 ·exact ad.elim
theorem Md {t e:TypeId} {n:Nat} (hu:P.underlying t=some (.slice e)) (aE:g9 P e=some n) {A:Option Addr} {len cap:Nat} {lo hi:Option Value} {l h:Int}
 (aH:S2 0 l lo) (dT:S2 len h hi) (h0:0≤l) (h1:l≤h) (h2:h≤len) (aq:len≤cap):
 (Instr.sliceAt t (.slice A len cap) lo hi none).run P w= .ok (.slice (if cap=l.toNat then A else A.map (·.add (l.toNat*n))) (h.toNat - l.toNat) (cap - l.toNat)) w:=by
 have aw:∀{x:Value} {k:IntKind} {i:Int} {y:Nat} {c:BoundsCode},x= .int k i→0≤i→i≤y→(Instr.sliceBound x y c).run P w= .ok i.toNat w:=by
  intro x k i y c aj h0 h1
  subst aj
  simp[Instr.sliceBound,asIntOf,h0,h1]
 have Dp:(Instr.sliceBounds true len cap lo hi none).run P w= .ok (l.toNat,h.toNat,cap) w:=by
  cases lo with
  |none=>
   have aH:l=0:=aH
   subst aH
   cases hi with
   |none=>
    have dT:h=len:=dT
    subst dT;simp[Instr.sliceBounds]
   |some x=>
    obtain⟨k,aj⟩:=dT
    simp[Instr.sliceBounds,aw aj (by omega:0≤h) (by omega:h≤(cap:Int))]
  |some x=>
   obtain⟨k,aj⟩:=aH
   cases hi with
   |none=>
    have dT:h=len:=dT
    subst dT;simp[Instr.sliceBounds,aw aj h0 h1]
   |some cM=>
    obtain⟨cX,z5⟩:=dT
    simp[Instr.sliceBounds,aw z5 (by omega:0≤h) (by omega:h≤(cap:Int)),aw aj h0 (by omega:l≤((h.toNat:Nat):Int))]
 simp[Instr.sliceAt,Instr.slice,eu hu,Dp,lW aE]
theorem akw {t e:TypeId} {n:Nat} (hu:P.underlying t=some (.slice e)) (aE:g9 P e=some n) (h:bd N aR aL R σ a w rd β) {v:ag} {u:Value} (aB:aT rd β v u)
 {lo hi:Option ag} {ai5 ai6:Option Value} (ur:I5 rd β lo ai5)
 (BM:I5 rd β hi ai6) {K:ag→Prop} (ad:tG σ n v lo hi K):
 Yields P N aR aL R σ a w β (Instr.sliceAt t u ai5 ai6 none) K:=by
 unfold tG at ad
 split at ad
 ·rename_i k xs
  simp only[aT,bj]at aB
  obtain⟨A,cap,rfl,tM,hA⟩:=aB
  obtain⟨l,ad,aH⟩:=AK ur ad
  obtain⟨m,ad,hm⟩:=AK BM ad
  obtain⟨rfl,h0,h1,h2,ad⟩:=ad
  have hlen:((xs.take m.toNat).drop l.toNat).length=m.toNat - l.toNat:=by simp;omega
  refine Yields.here h ad ?_ (Md hu aE aH hm h0 h1 h2 tM)
  simp only[aT,bj,hlen]
  refine⟨_,_,rfl,by omega,?_⟩
  rcases hA with rfl|⟨b,o,rfl,H⟩
  ·left;simp
  ·by_cases ay:cap=l.toNat
   ·left;exact List.eq_nil_of_length_eq_zero (by omega)
   ·right
    refine⟨b,o+l.toNat,by rw[if_neg ay];simp[x5],?_⟩
    have:=H.sub (lo:=l.toNat) (m.toNat - l.toNat)
    rwa [←List.drop_take]at this
 ·rename_i xs
  simp only[aT,bj]at aB
  obtain⟨A,cap,rfl,tM,hA⟩:=aB
  obtain⟨l,ad,aH⟩:=AK ur ad
  obtain⟨m,ad,hm⟩:=AK BM ad
  obtain⟨rfl,h0,h1,h2,ad⟩:=ad
  have hlen:((xs.take m.toNat).drop l.toNat).length=m.toNat - l.toNat:=by simp;omega
  refine Yields.here h ad ?_ (Md hu aE aH hm h0 h1 h2 tM)
  simp only[aT,bj,hlen]
  refine⟨_,_,rfl,by omega,?_⟩
  rcases hA with rfl|⟨b,o,rfl,H⟩
  ·left;simp
  ·by_cases ay:cap=l.toNat
   ·left;exact List.eq_nil_of_length_eq_zero (by omega)
   ·right
    refine⟨b,o+l.toNat,by rw[if_neg ay];simp[x5],?_⟩
    have:=H.sub (lo:=l.toNat) (m.toNat - l.toNat)
    rwa [←List.drop_take]at this
 ·rename_i z xs
  simp only[aT,bj]at aB
  obtain⟨A,cap,rfl,tM,hA⟩:=aB
  obtain⟨l,ad,aH⟩:=AK ur ad
  obtain⟨m,ad,hm⟩:=AK BM ad
  obtain⟨rfl,h0,h1,h2,ad⟩:=ad
  have hlen:((xs.take m.toNat).drop l.toNat).length=m.toNat - l.toNat:=by simp;omega
  refine Yields.here h ad ?_ (Md hu aE aH hm h0 h1 h2 tM)
  simp only[aT,bj,hlen]
  refine⟨_,_,rfl,by omega,?_⟩
  rcases hA with rfl|⟨b,o,rfl,H⟩
  ·left;simp
  ·by_cases ay:cap=l.toNat
   ·left;exact List.eq_nil_of_length_eq_zero (by omega)
   ·right
    refine⟨b,o+l.toNat*n,by rw[if_neg ay];simp[x5],?_⟩
    have:=H.sub (lo:=l.toNat) (m.toNat - l.toNat)
    rwa [←List.drop_take]at this
 ·rename_i j o len
  simp only[aT]at aB
  obtain⟨A,cap,rfl,tM,hA⟩:=aB
  obtain⟨l,ad,aH⟩:=AK ur ad
  obtain⟨m,ad,hm⟩:=AK BM ad
  obtain⟨fQ,h0,h1,h2,ad⟩:=ad
  refine Yields.here h ad ?_ (Md hu aE aH hm h0 h1 h2 tM)
  simp only[aT]
  refine⟨_,_,rfl,by omega,?_⟩
  rcases hA with ⟨rfl,rfl⟩|⟨r,ar,rfl,Kv⟩
  ·left;omega
  ·by_cases ay:cap=l.toNat
   ·left;omega
   ·right
    obtain⟨fm,cH,cZ,_⟩:=h.box j r ar
    have fD:r.sz=n:=by
     rw[cH]at fQ
     cases fm with
     |mk f e c=>cases c<;>simp only[p2,Option.some.injEq,reduceCtorEq]at fQ<;>(rw[←fQ];exact cZ.1)
    refine⟨r,ar,by rw[if_neg ay];simp[x5,fD,Nat.add_mul,Nat.add_assoc],fun hw=> ?_⟩
    have:=Kv hw
    rw[Nat.add_mul,Nat.sub_mul]
    have:l.toNat*r.sz≤cap*r.sz:=Nat.mul_le_mul_right _ (by omega)
    omega
 ·exact ad.elim
end
end RV
namespace RV
open Go Go.RowKit
section
variable {N:Nat} {aR:e3} {aL:Mem} {R:bU} {σ σ':St} {a:Act} {w:World} {rd:Mem} {β β':bU} {P:Program} {Γ:Env}
theorem AF:∀{cs:List ag} {vs:List Value},bY rd β cs vs→vs.length=cs.length
 |[],_,H=>by simp only[bY]at H;simp[H]
 |d::ds,_,H=>by
  simp only[bY]at H
  obtain⟨v,us,e,_,h2⟩:=H
  simp[e,AF h2]
theorem zt:∀{cs ds:List ag} {vs us:List Value},bY rd β cs vs→bY rd β ds us→bY rd β (cs++ds) (vs++us)
 |[],ds,vs,us,h,k=>by simp only[bY]at h;simpa [h]using k
 |c::cs,ds,vs,us,h,k=>by
  simp only[bY,List.cons_append]at*
  obtain⟨v,yT,rfl,h1,h2⟩:=h
  exact⟨v,yT++us,rfl,h1,zt h2 k⟩
theorem Qy:∀{cs:List ag} {vs:List Value} (n:Nat),bY rd β cs vs→bY rd β (cs.take n) (vs.take n)
 |_,_,0,_=>by simp[bY]
 |[],vs,n+1,h=>by simp only[bY]at h;simp[h,bY]
 |c::cs,vs,n+1,h=>by
  simp only[bY,List.take_succ_cons]at*
  obtain⟨v,yT,rfl,h1,h2⟩:=h
  exact⟨v,yT.take n,by simp,h1,Qy n h2⟩
theorem Qz:∀{cs:List ag} {vs:List Value} (n:Nat),bY rd β cs vs→bY rd β (cs.drop n) (vs.drop n)
 |_,_,0,h=>by simpa using h
 |[],vs,n+1,h=>by simp only[bY]at h;simp[h,bY]
 |c::cs,vs,n+1,h=>by
  simp only[bY]at h
  obtain⟨v,yT,rfl,h1,h2⟩:=h
  simpa using Qz n h2
theorem QM:∀{cs:List ag} {vs:List Value} {k:Nat} {c:ag},bY rd β cs vs→cs[k]? =some c→∃v,vs[k]? =some v∧aT rd β c v
 |c::cs,vs,0,c',h,ay=>by
  simp only[bY]at h
  obtain⟨v,yT,rfl,h1,h2⟩:=h
  simp at ay;subst ay
  exact⟨v,rfl,h1⟩
 |c::cs,vs,k+1,c',h,ay=>by
  simp only[bY]at h
  obtain⟨v,yT,rfl,h1,h2⟩:=h
  have cZ:cs[k]? =some c':=by simpa using ay
  obtain⟨x,aq,aK⟩:=QM h2 cZ
  exact⟨x,by simpa using aq,aK⟩
theorem XH {c:ag} {u:Value} (aE:c.dV=true) (h:aT rd β c u):u.cells= #[u]∧u.oneCell'=true:=by
 cases c with
 |d x=>
  cases x<;>simp only[ag.dV,Bool.false_eq_true]at aE<;>simp only[aT,bj]at h
  case bool=>subst h;exact⟨rfl,rfl⟩
  case int=>subst h;exact⟨rfl,rfl⟩
  case flt=>obtain⟨y,rfl,_⟩:=h;exact⟨rfl,rfl⟩
  case ints=>obtain⟨_,_,rfl,_⟩:=h;exact⟨rfl,rfl⟩
  case flts=>obtain⟨_,_,rfl,_⟩:=h;exact⟨rfl,rfl⟩
  case recs=>obtain⟨_,_,rfl,_⟩:=h;exact⟨rfl,rfl⟩
  case ptr=>obtain⟨_,_,rfl,_⟩:=h;exact⟨rfl,rfl⟩
  case fn=>obtain⟨_,_,rfl,_⟩:=h;exact⟨rfl,rfl⟩
  case nilfn=>subst h;exact⟨rfl,rfl⟩
  case nilp=>subst h;exact⟨rfl,rfl⟩
  case nili=>subst h;exact⟨rfl,rfl⟩
  case nilm=>subst h;exact⟨rfl,rfl⟩
  case ifc=>obtain⟨_,rfl,_⟩:=h;exact⟨rfl,rfl⟩
 |agg cs=>simp[ag.dV]at aE
 |box i o=>simp only[aT]at h;obtain⟨_,_,rfl⟩:=h;exact⟨rfl,rfl⟩
 |own i o n=>simp only[aT]at h;obtain⟨_,_,rfl,_⟩:=h;exact⟨rfl,rfl⟩
 |eo i j o=>simp only[aT]at h;obtain⟨_,_,rfl⟩:=h;exact⟨rfl,rfl⟩
 |mp i=>simp only[aT]at h;obtain⟨_,_,rfl⟩:=h;exact⟨rfl,rfl⟩
 |dk f x y=>simp only[aT]at h;obtain⟨_,_,rfl,_⟩:=h;exact⟨rfl,rfl⟩
 |dv l=>simp[ag.dV]at aE
 |dB=>simp[ag.dV]at aE
 |any=>simp[ag.dV]at aE
theorem Q1 {c:ag} {u:Value} (aE:c.cells.all ag.dV=true) (h:aT rd β c u):bY rd β c.cells u.cells.toList:=by
 cases ay:c with
 |agg cs=>
  subst ay
  simp only[aT]at h
  obtain⟨vs,rfl,H⟩:=h
  exact H
 |_=>
  rw[←ay]
  have e:c.cells=[c]:=by subst ay;rfl
  rw[e]at aE⊢
  rw[(XH (by simpa using aE) h).1]
  simp only[bY]
  exact⟨u,[],rfl,h,rfl⟩
theorem MO:∀{cs:List ag} {us:List Value},cs.all ag.dV=true→bY rd β cs us→∀u∈us,u.oneCell'=true
 |[],us,_,h=>by simp only[bY]at h;simp[h]
 |c::cs,us,aE,h=>by
  simp only[bY]at h
  obtain⟨v,qh,rfl,h1,h2⟩:=h
  simp only[List.all_cons,Bool.and_eq_true]at aE
  intro u hu
  simp only[List.mem_cons]at hu
  rcases hu with rfl|hu
  ·exact(XH aE.1 h1).2
  ·exact MO aE.2 h2 u hu
theorem Q2:∀(vs:List Value) (cs:Array Value) (off k:Nat),off+k+vs.length≤cs.size→
 ((vs.zipIdx k).foldl (fun cs (x:Value×Nat)=>cs.setIfInBounds (off+x.2) x.1) cs).toList=cs.toList.take (off+k)++vs++cs.toList.drop (off+k+vs.length)
 |[],cs,off,k,_=>by simp
 |v::vs,cs,off,k,h=>by
  simp only[List.length_cons]at h
  simp only[List.zipIdx_cons,List.foldl_cons]
  rw[Q2 vs _ off (k+1) (by simp;omega)]
  simp only[Array.toList_setIfInBounds,List.length_cons]
  have aH:off+k<cs.toList.length:=by simp;omega
  have aN:(cs.toList.set (off+k) v).take (off+(k+1))=cs.toList.take (off+k)++[v]:=by
   rw[show off+(k+1)=off+k+1 by omega,List.take_succ_eq_append_getElem (by simpa using aH),List.take_set_of_le (Nat.le_refl _)]
   simp
  have aX:(cs.toList.set (off+k) v).drop (off+(k+1)+vs.length)=cs.toList.drop (off+k+(vs.length+1)):=by
   rw[List.drop_set_of_lt (by omega)];congr 1;omega
  rw[aN,aX];simp
def RM (rd:Mem) (β:bU) (place:Nat→Option (Nat×Nat)):List (Nat×Nat×ag)→List (Nat×Value)→Prop
 |[],[]=>True
 |p::ps,q::LH=>(place q.1=some (p.1,p.2.1)∧aT rd β p.2.2 q.2)∧RM rd β place ps LH
 |_,_=>False
theorem Rj {place:Nat→Option (Nat×Nat)} :∀{parts:List (Nat×Nat×ag)} {Sm:List (Nat×Value)} {zero cs:List ag} {zs:Array Value},
 RM rd β place parts Sm→
 bY rd β zero zs.toList→Bd zero parts=some cs→∃arr,Instr.fill place zs Sm=some arr∧bY rd β cs arr.toList
 |[],_::_,_,_,_,aQ,_,_=>aQ.elim
 |[],[],zero,cs,zs,aQ,bp,hf=>by
  simp only[Bd,Option.some.injEq]at hf;subst hf
  exact⟨zs,rfl,bp⟩
 |_::_,[],_,_,_,aQ,_,_=>aQ.elim
 |(off,size,v)::parts,q::Sm,zero,cs,zs,aQ,bp,hf=>by
  obtain⟨⟨aq,aK⟩,h2⟩:=aQ
  simp only[Bd]at hf
  split at hf
  ·rename_i ay
   obtain⟨bR,bS,hj⟩:=ay
   have ae1:=Q1 hj aK
   have aH:=AF ae1
   have ae2:=AF bp
   have aO:q.2.cells.size=size:=by simpa [bR]using aH
   simp only[Array.length_toList]at aH ae2
   have vk:=Q2 q.2.cells.toList zs off 0 (by simp;omega)
   obtain⟨arr,aG,aM⟩:=Rj (zs:=q.2.cells.zipIdx.foldl (fun cs (c,j)=>cs.setIfInBounds (off+j) c) zs) h2 (by
    rw[←Array.foldl_toList,Array.toList_zipIdx,vk]
    simp only[Nat.add_zero,Array.length_toList,aO]
    exact zt (zt (Qy _ bp) ae1) (Qz _ bp)) hf
   refine⟨arr,?_,aM⟩
   simp only[Instr.fill,aq]
   rw[if_neg (by simp[aO];omega)]
   exact aG
  ·cases hf
theorem D6 {t:TypeId} {z:List D} (h:A4 P t=some z):∃i v,P.info? t=some i∧i.zero=some v∧bP rd z v.cells.toList:=by
 unfold A4 at h
 split at h
 ·rename_i v c1 aB _
  cases hi:P.info? t with
  |none=>rw[hi]at aB;cases aB
  |some i=>rw[hi]at aB;exact⟨i,v,rfl,aB,Qx h⟩
 ·cases h
theorem AX {t:TypeId} {i:TypeInfo} {v:Value} (h:P.info? t=some i) (aB:i.zero=some v) (w:World):(zeroValue t).run P w= .ok v w:=by
 simp[zeroValue,MN h,aB]
theorem Xk {α iS:Type} {f:α→Sem iS} {g:α→iS} :∀(l:List α),(∀x∈l,∀w,(f x).run P w= .ok (g x) w)→∀w,(l.mapM f).run P w= .ok (l.map g) w
 |[],_,w=>by simp
 |x::l,h,w=>by
  simp only[List.mapM_cons,Sem.run_bind,h x (by simp),Result.andThen_ok,Xk l (fun y hy=>h y (by simp[hy])),Sem.run_pure,List.map_cons]
theorem W9:∀{fs:List Field} {pl:List (Nat×Nat×TypeId)},IB P fs=some pl→
 (∀f∈fs,∃n,g9 P f.type=some n)∧pl=fs.map fun f=>(f.offset,(g9 P f.type).getD 0,f.type)
 |[],pl,h=>by simp only[IB,Option.some.injEq]at h;subst h;simp
 |f::fs,pl,h=>by
  simp only[IB]at h
  split at h
  ·rename_i n ps h1 h2
   simp only[Option.some.injEq]at h;subst h
   obtain⟨aq,aK⟩:=W9 h2
   refine⟨fun g bb=> ?_,by simp[h1,aK]⟩
   simp only[List.mem_cons]at bb
   rcases bb with rfl|bb
   ·exact⟨n,h1⟩
   ·exact aq g bb
  ·cases h
theorem Qn (h:bd N aR aL R σ a w rd β) {pl:List (Nat×Nat×TypeId)} {place:Nat→Option (Nat×Nat)} (BN:∀i x,pl[i]? =some x→place i=some (x.1,x.2.1)):
 ∀{parts:List (Nat×Operand)} {ps:List (Nat×Nat×bk)},AO P pl parts=some ps→
 RM rd β place (ps.map fun p=>(p.1,p.2.1,σ.aU p.2.2)) (parts.map fun(i,x)=>(i,a.eval x))
 |[],ps,ae=>by simp only[AO,Option.some.injEq]at ae;subst ae;exact trivial
 |(i,x)::parts,ps,ae=>by
  simp only[AO]at ae
  split at ae
  ·rename_i off size t OT h1 h2
   split at ae
   ·rename_i v aB
    simp only[Option.some.injEq]at ae;subst ae
    simp only[List.map_cons]
    exact⟨⟨BN i _ h1,x4 h aB⟩,Qn h BN h2⟩
   ·cases ae
  ·cases ae
theorem ajO (h:bd N aR aL R σ a w rd β) {t:TypeId} {parts:Array (Nat×Operand)} {l:bx} (ae:pO P t parts=some l) {K:ag→Prop} (ad:bf Γ σ K l):
 Yields P N aR aL R σ a w β (Instr.build t (parts.map fun(i,x)=>(i,a.eval x))) K:=by
 unfold pO at ae
 split at ae
 ·rename_i fs z hu bp
  split at ae
  ·rename_i pl BN
   cases aQ:AO P pl parts.toList with
   |none=>rw[aQ]at ae;cases ae
   |some ps=>
    rw[aQ]at ae
    simp only[Option.map_some,Option.some.injEq]at ae;subst ae
    simp only[bf]at ad
    split at ad
    ·rename_i cs fR
     obtain⟨i,v,hi,aB,GH⟩:=D6 (rd:=rd) bp
     obtain⟨yU,yV⟩:=W9 BN
     have aoh:(fs.mapM fun f=>do pure (f.offset,←Go.sizeOf f.type):Sem (Array (Nat×Nat))).run P w= .ok (fs.map fun f=>(f.offset,(g9 P f.type).getD 0)) w:=by
      rw[Array.mapM_eq_mapM_toList]
      simp only[Sem.run_map]
      rw[Xk (g:=fun f=>(f.offset,(g9 P f.type).getD 0)) fs.toList (fun f hf w=>by
       obtain⟨n,aJ⟩:=yU f hf
       simp[lW aJ,aJ])]
      simp only[Result.andThen_ok]
      rw[←Array.toList_map]
     obtain⟨arr,h1,h2⟩:=Rj (zs:=v.cells) (Qn h (place:=fun i=>(fs.map fun f=>(f.offset,(g9 P f.type).getD 0))[i]?) (fun i x aj=>by
      rw[yV]at aj
      simp only[List.getElem?_map]at aj
      cases hf:fs.toList[i]? with
      |none=>rw[hf]at aj;cases aj
      |some f=>
       rw[hf]at aj
       simp only[Option.map_some,Option.some.injEq]at aj;subst aj
       have GI:fs[i]? =some f:=by simpa using hf
       simp[GI]) aQ) (AJ GH) fR
     refine Yields.here h ad (u:= .agg arr) (by simp only[aT];exact⟨arr,rfl,h2⟩) ?_
     simp only[Instr.build,Sem.run_bind,AX hi aB,Result.andThen_ok,eu hu,aoh]
     have:(parts.map fun(i,x)=>(i,a.eval x)).toList=parts.toList.map fun(i,x)=>(i,a.eval x):=by simp
     rw[this,h1]
     simp
    ·exact ad.elim
  ·cases ae
 ·rename_i len e z hu bp
  split at ae
  ·rename_i n aJ
   cases aQ:AO P ((List.range len).map fun i=>(i*n,n,e)) parts.toList with
   |none=>rw[aQ]at ae;cases ae
   |some ps=>
    rw[aQ]at ae
    simp only[Option.map_some,Option.some.injEq]at ae;subst ae
    simp only[bf]at ad
    split at ad
    ·rename_i cs fR
     obtain⟨i,v,hi,aB,GH⟩:=D6 (rd:=rd) bp
     obtain⟨arr,h1,h2⟩:=Rj (zs:=v.cells) (Qn h (place:=fun i=>some (i*n,n)) (fun i x aj=>by
      simp only[List.getElem?_map]at aj
      cases hf:(List.range len)[i]? with
      |none=>rw[hf]at aj;cases aj
      |some j=>
       rw[hf]at aj
       simp only[Option.map_some,Option.some.injEq]at aj;subst aj
       have:j=i:=by
        have:=List.getElem?_eq_some_iff.1 hf
        obtain⟨bl,h⟩:=this
        simpa using h.symm
       simp[this]) aQ) (AJ GH) fR
     refine Yields.here h ad (u:= .agg arr) (by simp only[aT];exact⟨arr,rfl,h2⟩) ?_
     simp only[Instr.build,Sem.run_bind,AX hi aB,Result.andThen_ok,eu hu,lW aJ]
     have:(parts.map fun(i,x)=>(i,a.eval x)).toList=parts.toList.map fun(i,x)=>(i,a.eval x):=by simp
     rw[this,h1]
     simp
    ·exact ad.elim
  ·cases ae
 ·cases ae
end
end RV
namespace RV
open Go Go.RowKit
section
variable {N:Nat} {aR:e3} {aL:Mem} {R:bU} {σ σ':St} {a:Act} {w:World} {rd:Mem} {β β':bU} {P:Program} {Γ:Env}
def p7 (us:List Value):List Value:=us.flatMap fun u=>u.cells.toList
theorem Xl {size:Nat} :∀(us:List Value) (k:Nat) (zs:Array Value),(∀u∈us,u.cells.size=size)→(k+us.length)*size≤zs.size→
 ∃arr,Instr.fill (fun i=>some (i*size,size)) zs ((us.zipIdx k).map fun x=>(x.2,x.1))=some arr∧arr.toList=zs.toList.take (k*size)++p7 us++zs.toList.drop ((k+us.length)*size)
 |[],k,zs,_,_=>⟨zs,rfl,by simp[p7]⟩
 |u::us,k,zs,hu,bp=>by
  have h0:=hu u (by simp)
  simp only[List.length_cons]at bp
  have b8:(k+(us.length+1))*size=k*size+size+us.length*size:=by rw[Nat.add_mul,Nat.add_mul];omega
  rw[b8]at bp
  have vk:=Q2 u.cells.toList zs (k*size) 0 (by simp;omega)
  obtain⟨arr,h1,h2⟩:=Xl us (k+1) (u.cells.zipIdx.foldl (fun cs (c,j)=>cs.setIfInBounds (k*size+j) c) zs) (fun v aB=>hu v (by simp[aB])) (by
   have:(u.cells.zipIdx.foldl (fun cs (c,j)=>cs.setIfInBounds (k*size+j) c) zs).toList.length=zs.size:=by
    rw[←Array.foldl_toList,Array.toList_zipIdx,vk];simp;omega
   rw[Array.length_toList]at this
   rw[this,show (k+1+us.length)*size=k*size+size+us.length*size by rw[Nat.add_mul,Nat.add_mul];omega]
   exact bp)
  refine⟨arr,?_,?_⟩
  ·simp only[List.zipIdx_cons,List.map_cons,Instr.fill]
   rw[if_neg (by simp[h0];omega)]
   exact h1
  ·rw[h2,←Array.foldl_toList,Array.toList_zipIdx,vk]
   simp only[Nat.add_zero,Array.length_toList,h0]
   have cI:(zs.toList.take (k*size)++u.cells.toList).length=(k+1)*size:=by
    simp[h0,Nat.succ_mul];omega
   rw[List.take_append_of_le_length (by omega),List.take_of_length_le (by omega)]
   rw[show (k+1+us.length)*size=(zs.toList.take (k*size)++u.cells.toList).length+us.length*size by rw[cI,←Nat.add_mul]]
   rw[List.drop_length_add_append]
   simp only[List.drop_drop,p7,List.flatMap_cons,List.length_cons,b8]
   simp
theorem Qq {k:IntKind} {rd m:Mem} {b:Nat} :∀{ds:List D} {us:List Value} {xs:List Int} {o:Nat},yl k ds=some xs→bP rd ds us→
 (∀u∈us,u.cells.size=1)∧xs.length=us.length∧((∀j v,(p7 us)[j]? =some v→m (cellAt b (o+j))=some v)→gX m k b o xs)
 |[],us,xs,o,h,ar=>by
  simp only[yl,Option.some.injEq]at h;subst h
  simp only[bP]at ar;subst ar
  simp[gX]
 |d::ds,us,xs,o,h,ar=>by
  simp only[bP]at ar
  obtain⟨u,qh,rfl,h1,h2⟩:=ar
  cases d<;>simp only[yl,reduceCtorEq]at h
  split at h
  ·rename_i cX n ad
   subst ad
   cases a6:yl cX ds with
   |none=>rw[a6]at h;cases h
   |some aC=>
    rw[a6]at h
    simp only[Option.map_some,Option.some.injEq]at h;subst h
    simp only[bj]at h1;subst h1
    obtain⟨i1,i2,i3⟩:=Qq (o:=o+1) a6 h2 (m:=m) (b:=b)
    refine⟨fun v aB=> ?_,by simp[i2],fun hm=>⟨hm 0 _ (by simp[p7,Value.cells]),i3 fun j v aF=> ?_⟩⟩
    ·simp only[List.mem_cons]at aB
     rcases aB with rfl|aB
     ·rfl
     ·exact i1 v aB
    ·have:=hm (j+1) v (by simpa [p7,Value.cells]using aF)
     rw[show o+1+j=o+(j+1)by omega];exact this
  ·cases h
theorem Qr {rd m:Mem} {b:Nat} :∀{ds:List D} {us:List Value} {xs:List Nat} {o:Nat},ym ds=some xs→bP rd ds us→
 (∀u∈us,u.cells.size=1)∧xs.length=us.length∧((∀j v,(p7 us)[j]? =some v→m (cellAt b (o+j))=some v)→gY m b o xs)
 |[],us,xs,o,h,ar=>by
  simp only[ym,Option.some.injEq]at h;subst h
  simp only[bP]at ar;subst ar
  simp[gY]
 |d::ds,us,xs,o,h,ar=>by
  simp only[bP]at ar
  obtain⟨u,qh,rfl,h1,h2⟩:=ar
  cases d<;>simp only[ym,reduceCtorEq]at h
  rename_i n
  cases a6:ym ds with
  |none=>rw[a6]at h;cases h
  |some aC=>
   rw[a6]at h
   simp only[Option.map_some,Option.some.injEq]at h;subst h
   simp only[bj]at h1
   obtain⟨y,rfl,hy⟩:=h1
   obtain⟨i1,i2,i3⟩:=Qr (o:=o+1) a6 h2 (m:=m) (b:=b)
   refine⟨fun v aB=> ?_,by simp[i2],fun hm=>⟨⟨y,hm 0 _ (by simp[p7,Value.cells]),hy⟩,i3 fun j v aF=> ?_⟩⟩
   ·simp only[List.mem_cons]at aB
    rcases aB with rfl|aB
    ·rfl
    ·exact i1 v aB
   ·have:=hm (j+1) v (by simpa [p7,Value.cells]using aF)
    rw[show o+1+j=o+(j+1)by omega];exact this
theorem gk.of {rd m:Mem} (hm:b3 rd m) {b:Nat} :∀{ds:List D} {vs:List Value} {o:Nat},bP rd ds vs→(∀j v,vs[j]? =some v→m (cellAt b (o+j))=some v)→gk m b o ds
 |[],_,_,_,_=>by simp only[gk]
 |d::ds,vs,o,h,ay=>by
  simp only[bP]at h
  obtain⟨v,us,rfl,h1,h2⟩:=h
  simp only[gk]
  refine⟨⟨v,ay 0 v rfl,h1.mono hm _ _⟩,gk.of hm h2 fun j u aF=> ?_⟩
  have:=ay (j+1) u (by simpa using aF)
  rw[show o+1+j=o+(j+1)by omega];exact this
theorem Qs {sz:Nat} {rd m:Mem} (hle:b3 rd m) {b:Nat} :∀{ds:List D} {us:List Value} {xs:List (List D)} {o:Nat},oP sz ds=some xs→bP rd ds us→
 (∀u∈us,u.cells.size=sz)∧xs.length=us.length∧((∀j v,(p7 us)[j]? =some v→m (cellAt b (o+j))=some v)→gG m b sz o xs)
 |[],us,xs,o,h,ar=>by
  simp only[oP,Option.some.injEq]at h;subst h
  simp only[bP]at ar;subst ar
  simp[gG]
 |d::ds,us,xs,o,h,ar=>by
  simp only[bP]at ar
  obtain⟨u,qh,rfl,h1,h2⟩:=ar
  have key:∃r aC,xs=r::aC∧oP sz ds=some aC∧r.length=sz∧bP rd r u.cells.toList:=by
   have other:(∀cs,d≠ .agg cs)→∃r aC,xs=r::aC∧oP sz ds=some aC∧r.length=sz∧bP rd r u.cells.toList:=by
    intro aD
    have et:(if sz=1 then (oP sz ds).map ([d]:: ·)else none)=some xs:=by
     cases d<;>simp only[oP]at h<;>first|exact h|exact absurd rfl (aD _)
    split at et
    ·rename_i aE
     cases a6:oP sz ds with
     |none=>rw[a6]at et;cases et
     |some aC=>
      rw[a6]at et
      simp only[Option.map_some,Option.some.injEq]at et
      refine⟨[d],aC,et.symm,rfl,aE.symm,?_⟩
      have:u.cells.toList=[u]:=by
       cases d<;>simp only[bj]at h1<;>first
        |exact absurd rfl (aD _)
        |(subst h1;rfl)
        |(obtain⟨_,rfl,_⟩:=h1;rfl)
        |(obtain⟨_,_,rfl,_⟩:=h1;rfl)
      rw[this]
      simp only[bP]
      exact⟨u,[],rfl,h1,rfl⟩
    ·cases et
   cases aD:d with
   |agg cs=>
    subst aD
    simp only[oP]at h
    split at h
    ·rename_i aE
     cases a6:oP sz ds with
     |none=>rw[a6]at h;cases h
     |some aC=>
      rw[a6]at h
      simp only[Option.map_some,Option.some.injEq]at h
      simp only[bj]at h1
      obtain⟨vs,rfl,H⟩:=h1
      exact⟨cs,aC,h.symm,rfl,aE,H⟩
    ·cases h
   |_=>exact other (by intro cs;rw[aD];simp)
  obtain⟨r,aC,rfl,a6,aH,uu⟩:=key
  have fQ:u.cells.size=sz:=by have:=AH uu;simpa [aH]using this
  obtain⟨i1,i2,i3⟩:=Qs hle (o:=o+sz) a6 h2 (m:=m) (b:=b)
  refine⟨fun v aB=> ?_,by simp[i2],fun hm=> ?_⟩
  ·simp only[List.mem_cons]at aB
   rcases aB with rfl|aB
   ·exact fQ
   ·exact i1 v aB
  ·simp only[gG]
   refine⟨aH,gk.of hle uu fun j v aF=>hm j v ?_,i3 fun j v aF=> ?_⟩
   ·simp only[p7,List.flatMap_cons]
    rw[List.getElem?_append_left]
    ·exact aF
    ·rcases Nat.lt_or_ge j u.cells.toList.length with et|et
     ·exact et
     ·rw[List.getElem?_eq_none et]at aF;cases aF
   ·have:=hm (sz+j) v (by
     simp only[p7,List.flatMap_cons]
     rw[List.getElem?_append_right (by simp[fQ])]
     simpa [fQ,p7]using aF)
    rw[show o+sz+j=o+(sz+j)by omega];exact this
theorem Xm {ek:dM} {rd m:Mem} (hle:b3 rd m) {ds:List D} {d:D} {us:List Value} (h:asSlice ek ds=some d) (ar:bP rd ds us):
 (∀u∈us,u.cells.size=ek.sz)∧∀b,(∀j v,(p7 us)[j]? =some v→m (cellAt b j)=some v)→bj m d (.slice (some (cellAt b 0)) us.length us.length):=by
 cases ek with
 |ints k=>
  simp only[asSlice]at h
  cases a6:yl k ds with
  |none=>rw[a6]at h;cases h
  |some xs=>
   rw[a6]at h
   simp only[Option.map_some,Option.some.injEq]at h;subst h
   obtain⟨h1,h2,_⟩:=Qq (m:=m) (b:=0) (o:=0) a6 ar
   refine⟨h1,fun b aw=> ?_⟩
   obtain⟨_,_,aq⟩:=Qq (m:=m) (b:=b) (o:=0) a6 ar
   simp only[bj]
   exact⟨_,_,by rw[h2],by omega,.inr ⟨b,0,rfl,aq fun j v aF=>by rw[Nat.zero_add];exact aw j v aF⟩⟩
 |flts=>
  simp only[asSlice]at h
  cases a6:ym ds with
  |none=>rw[a6]at h;cases h
  |some xs=>
   rw[a6]at h
   simp only[Option.map_some,Option.some.injEq]at h;subst h
   obtain⟨h1,h2,_⟩:=Qr (m:=m) (b:=0) (o:=0) a6 ar
   refine⟨h1,fun b aw=> ?_⟩
   obtain⟨_,_,aq⟩:=Qr (m:=m) (b:=b) (o:=0) a6 ar
   simp only[bj]
   exact⟨_,_,by rw[h2],by omega,.inr ⟨b,0,rfl,aq fun j v aF=>by rw[Nat.zero_add];exact aw j v aF⟩⟩
 |recs sz=>
  simp only[asSlice]at h
  cases a6:oP sz ds with
  |none=>rw[a6]at h;cases h
  |some xs=>
   rw[a6]at h
   simp only[Option.map_some,Option.some.injEq]at h;subst h
   obtain⟨h1,h2,_⟩:=Qs hle (m:=m) (b:=0) (o:=0) a6 ar
   refine⟨h1,fun b aw=> ?_⟩
   obtain⟨_,_,aq⟩:=Qs hle (m:=m) (b:=b) (o:=0) a6 ar
   simp only[bj]
   exact⟨_,_,by rw[h2],by omega,.inr ⟨b,0,rfl,aq fun j v aF=>by rw[Nat.zero_add];exact aw j v aF⟩⟩
mutual
theorem amD:∀(v:ag),v.pure=true→∀j,v.has j=false
 | .d _,_,_=>by simp[ag.has]
 | .agg cs,h,j=>by simpa [ag.has]using Ei cs (by simpa [ag.pure]using h) j
 | .box _ _,h,_=>by simp[ag.pure]at h
 | .own _ _ _,h,_=>by simp[ag.pure]at h
 | .eo _ _ _,h,_=>by simp[ag.pure]at h
 | .mp _,h,_=>by simp[ag.pure]at h
 | .dk _ x y,h,j=>by
   simp only[ag.pure,Bool.and_eq_true]at h
   simp[ag.has,Ei x h.1 j,Ei y h.2 j]
 | .dv _,h,_=>by simp[ag.pure]at h
 | .dB,h,_=>by simp[ag.pure]at h
 | .any,h,_=>by simp[ag.pure]at h
theorem Ei:∀(vs:List ag),ag.g8 vs=true→∀j,ag.df j vs=false
 |[],_,_=>by simp[ag.df]
 |v::vs,h,j=>by
  simp only[ag.g8,Bool.and_eq_true]at h
  simp[ag.df,amD v h.1 j,Ei vs h.2 j]
end
theorem akx (w:World) (rd:Mem):b3 (plus w (fun _=>False) rd) rd:=fun a v h=>by rwa [x9 (by simp)]at h
theorem AR (h:bd N aR aL R σ a w rd β) {vs:List ag} {us:List Value} {ds:List D} (aQ:ag.g8 vs=true) (aD:toDs σ vs=some ds) (ar:bY rd β vs us):bP rd ds us:=
 (toDs_rep h (S:=fun _=>False) vs us ds aD ar fun i r aP hi=>by rw[Ei vs aQ i]at hi;cases hi).mono (akx w rd) _ _
theorem Xn:∀{parts:List (Nat×Operand)} {n k:Nat},EA n parts k=true→n=k+parts.length∧(parts.map fun(i,x)=>(i,a.eval x))=((parts.map fun x=>a.eval x.2).zipIdx k).map fun x=>(x.2,x.1)
 |[],n,k,h=>by simp only[EA,beq_iff_eq]at h;simp[h]
 |(j,x)::parts,n,k,h=>by
  simp only[EA,Bool.and_eq_true,beq_iff_eq]at h
  obtain⟨h1,h2⟩:=Xn h.2
  refine⟨by simp;omega,?_⟩
  simp only[List.map_cons,List.zipIdx_cons,h2,h.1]
theorem H7 {e:TypeId} {ek:dM} (h:sd P e=some ek):g9 P e=some ek.sz∧0<ek.sz:=by
 unfold sd at h
 split at h<;>simp only[Option.some.injEq,reduceCtorEq]at h<;>subst h<;>refine⟨by assumption,by simp[dM.sz]⟩
theorem aky (h:bd N aR aL R σ a w rd β) {t e:TypeId} {ek:dM} {len:Nat} {parts:Array (Nat×Operand)} (hu:P.underlying t=some (.slice e)) (mC:sd P e=some ek)
 (auo:EA len parts.toList 0=true) (fQ:len*ek.sz≤16777216) (bp:((P.info? e).bind (·.zero)).isSome=true) {ls:List bk}
 (Ux:iX P (parts.toList.map fun _=>e) (parts.toList.map (·.2))=some ls) {K:ag→Prop} (ad:bf Γ σ K (.rI ek ls)):
 Yields P N aR aL R σ a w β (Instr.buildSlice t len (parts.map fun(i,x)=>(i,a.eval x))) K:=by
 simp only[bf]at ad
 obtain⟨aQ,ad⟩:=ad
 split at ad
 ·rename_i ds hq
  split at ad
  ·rename_i d aD
   have ar:=qP h Ux
   have uv:=AR h aQ hq ar
   obtain⟨hlen,vl⟩:=Xn (a:=a) auo
   obtain⟨o6,Jz⟩:=H7 mC
   cases hi:P.info? e with
   |none=>rw[hi]at bp;cases bp
   |some i=>
    rw[hi]at bp
    cases aB:i.zero with
    |none=>simp[aB]at bp
    |some z=>
     simp only[Nat.zero_add]at hlen
     have OU:(parts.toList.map (·.2)).map a.eval=parts.toList.map fun x=>a.eval x.2:=by rw[List.map_map];rfl
     rw[OU]at uv
     obtain⟨h1,_⟩:=Xm (b3.refl _) aD uv
     obtain⟨arr,aq,aK⟩:=Xl (parts.toList.map fun x=>a.eval x.2) 0 ((Array.range (len*ek.sz)).map (z.cells[· % z.cells.size]!)) h1 (by rw[Array.size_map,Array.size_range,List.length_map,←hlen,Nat.zero_add];exact Nat.le_refl _)
     have aup:arr.toList=p7 (parts.toList.map fun x=>a.eval x.2):=by
      rw[aK,List.drop_of_length_le (by rw[Array.length_toList,Array.size_map,Array.size_range,List.length_map,←hlen,Nat.zero_add];exact Nat.le_refl _)]
      simp
     have aw:Below w.heap.size w (w.alloc (.cells arr e)):=(Below.refl _ _).alloc (Nat.le_refl _) _
     have iL:b3 rd (ke w (w.alloc (.cells arr e)) rd):=fun aP v aB=>by
      have:=AP (h.dg aP v aB)
      simp[ke,this,aB]
     refine⟨.d d,.slice (some (cellAt w.heap.size 0)) len len,w.alloc (.cells arr e),ke w (w.alloc (.cells arr e)) rd,ad,?_,?_,?_⟩
     ·refine h.more aw iL (fun aP v aB=> ?_) (fun aP v aB bl=>by simpa [ke,bl]using aB)
      unfold ke at aB
      split at aB
      ·rename_i bl
       rw[World.cell?_alloc_lt _ _ _ bl];exact h.dg _ _ aB
      ·exact aB
     ·simp only[aT]
      obtain⟨_,h2⟩:=Xm iL aD uv
      have:=h2 w.heap.size (fun j v aF=>by
       simp only[ke,cellAt,Nat.lt_irrefl,if_false]
       rw[World.cell?_alloc_new,←Array.getElem?_toList,aup]
       exact aF)
      simpa [hlen]using this
     ·simp only[Instr.buildSlice,Sem.run_bind,eu hu,Result.andThen_ok,lW o6]
      rw[if_neg (by have:(2:Nat)^24=16777216:=by decide
                    omega)]
      have ae3:(parts.map fun(i,x)=>(i,a.eval x)).toList=((parts.toList.map fun x=>a.eval x.2).zipIdx 0).map fun x=>(x.2,x.1):=by
       rw[Array.toList_map];exact vl
      by_cases Dq:len*ek.sz=0
      ·have auq:Instr.fill (fun i=>some (i*ek.sz,ek.sz)) ((Array.range (len*ek.sz)).map ((#[]:Array Value)[· % (#[]:Array Value).size]!)) (((parts.toList.map fun x=>a.eval x.2).zipIdx 0).map fun x=>(x.2,x.1))=some arr:=by
        have he:∀f:Nat→Value,(Array.range 0).map f= #[]:=fun f=>Array.eq_empty_of_size_eq_zero (by simp)
        rw[←aq,Dq,he,he]
       simp only[Sem.run_pure,Result.andThen_ok,if_pos Dq,Sem.run_bind,ae3,auq,newRow,run_newObj]
       rfl
      ·simp only[if_neg Dq,Sem.run_bind,AX hi aB,Sem.run_pure,Result.andThen_ok,ae3,aq,newRow,run_newObj]
       rfl
  ·exact ad.elim
 ·exact ad.elim
end
end RV
namespace RV
open Go Go.RowKit
section
variable {N:Nat} {aR:e3} {aL:Mem} {R:bU} {σ σ':St} {a:Act} {w:World} {rd:Mem} {β β':bU} {P:Program} {Γ:Env}
def gL (P:Program) (N:Nat) (aR:e3) (aL:Mem) (R:bU) (σ:St) (a:Act) (w:World) (β:bU) (o:Oper) (K:ag→Prop):Prop:=
 ∃av u w' rd',K av∧bd N aR aL R σ a w' rd' β∧aT rd' β av u∧(execOp a.eval o).run P w= .ok (.value u) w'
theorem Yields.done {s:Sem Value} {K:ag→Prop} {o:Oper} (hy:Yields P N aR aL R σ a w β s K)
 (he:(execOp a.eval o).run P w=(s.run P w).andThen fun u w=> .ok (.value u) w):gL P N aR aL R σ a w β o K:=by
 obtain⟨av,u,w',rd',h1,h2,aq,aK⟩:=hy
 exact⟨av,u,w',rd',h1,h2,aq,by rw[he,aK];rfl⟩
theorem iC {K:ag→Prop} {o:Oper} (h:bd N aR aL R σ a w rd β) {av:ag} {u:Value} (ad:K av) (ar:aT rd β av u) (he:(execOp a.eval o).run P w= .ok (.value u) w):gL P N aR aL R σ a w β o K:=
 ⟨av,u,w,rd,ad,h,ar,he⟩
theorem ZQ (h:bd N aR aL R σ a w rd β) {o:Oper} {x:Operand} {t:TypeId} {v:bk} (bz:o.op= .move x∨o.op= .assign x) (aj:k4 P t x=some v) {K:ag→Prop} (ad:K (σ.aU v)):gL P N aR aL R σ a w β o K:=
 iC h ad (x4 h aj) (by rcases bz with e|e<;>simp[execOp,e])
theorem map_some {α iS:Type} {x:Option α} {f:α→iS} {y:iS} (h:x.map f=some y):∃v,x=some v∧f v=y:=by
 cases x with
 |none=>cases h
 |some v=>exact⟨v,rfl,by simpa using h⟩
theorem aas (h:bd N aR aL R σ a w rd β) {x:Option Operand} {l:Option bk} (aj:RK P x=some l):I5 rd β (l.map σ.aU) (x.map a.eval):=by
 cases x with
 |none=>
  have:none=l:=Option.some.inj aj
  subst this;exact trivial
 |some x=>
  obtain⟨v,aE,rfl⟩:=map_some (show (dA P x).map some=some l from aj)
  exact ez h aE
theorem run_equalIn_bool (d:Nat) {t:TypeId} (hu:P.underlying t=some .bool) (n m:Bool) (w:World):(Op.equalIn (d+1) t (.bool n) (.bool m)).run P w= .ok (n==m) w:=by
 simp only[Op.equalIn,Sem.run_bind,eu hu,Result.andThen_ok,Sem.run_pure]
theorem run_equal_bool {t:TypeId} (hu:P.underlying t=some .bool) (n m:Bool) (w:World):(Op.equal t (.bool n) (.bool m)).run P w= .ok (n==m) w:=
 run_equalIn_bool 9999 hu n m w
theorem MA {t:TypeId} (h:oX P t=true):P.underlying t=some (.int .i64):=by
 unfold oX at h
 split at h
 ·assumption
 ·cases h
theorem D7 {t:TypeId} (h:oX P t=true) {cs:Array Value} {off:Nat} {v:Value} (aB:cs[off]? =some v) (w:World):(part t cs off).run P w= .ok v w:=by
 simp[part,isAgg,eu (MA h),aB]
theorem run_equalIn_int (d:Nat) {t:TypeId} (h:oX P t=true) (n m:Int) (w:World):(Op.equalIn (d+1) t (.int .i64 n) (.int .i64 m)).run P w= .ok (n==m) w:=by
 simp only[Op.equalIn,Sem.run_bind,eu (MA h),Result.andThen_ok,Sem.run_pure,if_true]
theorem Ml {t:TypeId} (h:yv P t=true):∃f g:Field,P.underlying t=some (.struct #[f,g])∧f.name≠"_"∧g.name≠"_"∧f.offset=0∧g.offset=1∧oX P f.type=true∧oX P g.type=true∧P.stoodInHeld t=false∧P.eqGuardType P.depth t=false:=by
 unfold yv at h
 split at h
 ·rename_i fs hu
  split at h
  ·rename_i f g aH
   simp only[Bool.and_eq_true,bne_iff_ne,beq_iff_eq,Bool.not_eq_true']at h
   obtain⟨⟨⟨⟨⟨⟨⟨h1,h2⟩,aq⟩,aK⟩,aG⟩,aM⟩,aS⟩,bn⟩:=h
   refine⟨f,g,?_,h1,h2,aq,aK,aG,aM,aS,bn⟩
   rw[hu]
   congr 2
   exact Array.toList_inj.1 aH
  ·cases h
 ·cases h
theorem WY {t:TypeId} (h:yv P t=true) (a b c d:Int) (w:World):(Op.equal t (.agg #[.int .i64 a,.int .i64 b]) (.agg #[.int .i64 c,.int .i64 d])).run P w= .ok (a==c && b==d) w:=by
 obtain⟨f,g,hu,ew,eN,jF,da,i1,i2,aE,_⟩:=Ml h
 have p1:∀x y:Int,∀w,(part f.type #[Value.int .i64 x,.int .i64 y] f.offset).run P w= .ok (.int .i64 x) w:=fun x y w=>D7 i1 (by rw[jF];rfl) w
 have cq:∀x y:Int,∀w,(part g.type #[Value.int .i64 x,.int .i64 y] g.offset).run P w= .ok (.int .i64 y) w:=fun x y w=>D7 i2 (by rw[da];rfl) w
 unfold Op.equal
 rw[show Op.maxDepth=9998+1+1 from rfl]
 rw[Op.equalIn]
 simp only[Sem.run_bind,eu hu,Result.andThen_ok]
 cases h1:(a==c)<;>cases h2:(b==d)<;>simp[aE,ew,eN,p1,cq,run_equalIn_int 9998 i1,run_equalIn_int 9998 i2,h1,h2]
theorem Rk {rd:Mem} {β:bU} {v:ag} {u:Value} {p:Int×Int} (h:v.pair=some p) (ar:aT rd β v u):u= .agg #[.int .i64 p.1,.int .i64 p.2]:=by
 unfold ag.pair at h
 split at h
 ·simp only[Option.some.injEq]at h;subst h
  simp only[aT,bj,bP]at ar
  obtain⟨vs,rfl,v1,bu,aN,rfl,v2,bs,aX,rfl,rfl⟩:=ar
  rw[aX]at aN
  congr 1
  exact Array.toList_inj.1 aN
 ·simp only[Option.some.injEq]at h;subst h
  simp only[aT,bY,bj]at ar
  obtain⟨vs,rfl,v1,bu,aN,rfl,v2,bs,aX,rfl,rfl⟩:=ar
  rw[aX]at aN
  congr 1
  exact Array.toList_inj.1 aN
 ·cases h
def bx.lX:bx→Bool
 | .call .. | .hJ .. | .sq .. =>true
 |_=>false
def kL (l:List Int):Value:= .agg (l.map (Value.int .i64)).toArray
theorem Yb {rd:Mem} :∀{cs:List D} {us:List Value} {p:List Int},sk cs=some p→bP rd cs us→us=p.map (Value.int .i64)
 |[],us,p,h,ar=>by
  simp only[sk,Option.some.injEq]at h;subst h
  simpa only[bP,List.map_nil]using ar
 |d::cs,us,p,h,ar=>by
  simp only[bP]at ar
  obtain⟨v,vs,rfl,h1,h2⟩:=ar
  cases d with
  |int k n=>
   cases k with
   |i64=>
    simp only[sk]at h
    obtain⟨q,aO,rfl⟩:=map_some h
    simp only[bj]at h1
    rw[h1,Yb aO h2];rfl
   |_=>simp[sk]at h
  |_=>simp[sk]at h
theorem Yc {rd:Mem} {β:bU} :∀{cs:List ag} {us:List Value} {p:List Int},q1 cs=some p→bY rd β cs us→us=p.map (Value.int .i64)
 |[],us,p,h,ar=>by
  simp only[q1,Option.some.injEq]at h;subst h
  simpa only[bY,List.map_nil]using ar
 |d::cs,us,p,h,ar=>by
  simp only[bY]at ar
  obtain⟨v,vs,rfl,h1,h2⟩:=ar
  cases d with
  |d x=>
   cases x with
   |int k n=>
    cases k with
    |i64=>
     simp only[q1]at h
     obtain⟨q,aO,rfl⟩:=map_some h
     simp only[aT,bj]at h1
     rw[h1,Yc aO h2];rfl
    |_=>simp[q1]at h
   |_=>simp[q1]at h
  |_=>simp[q1]at h
theorem YQ {rd:Mem} {β:bU} {v:ag} {u:Value} {p:List Int} (h:v.yz=some p) (ar:aT rd β v u):u=kL p:=by
 unfold ag.yz at h
 split at h
 ·simp only[aT,bj]at ar
  obtain⟨vs,rfl,ar⟩:=ar
  have:=Yb h ar
  unfold kL
  rw[←this]
 ·simp only[aT]at ar
  obtain⟨vs,rfl,ar⟩:=ar
  have:=Yc h ar
  unfold kL
  rw[←this]
 ·cases h
theorem alw {t:TypeId} {n:Nat} (h:Jw P t=some n):∃e,P.underlying t=some (.array n e)∧oX P e=true∧P.eqGuardType P.depth t=false∧g9 P e=some 1:=by
 unfold Jw at h
 split at h
 ·rename_i len e hu
  split at h
  ·rename_i ay
   simp only[Bool.and_eq_true,Bool.not_eq_true',beq_iff_eq]at ay
   simp only[Option.some.injEq]at h;subst h
   exact⟨e,hu,ay.1.1,ay.1.2,ay.2⟩
  ·cases h
 ·cases h
theorem akz (d:Nat) {t e:TypeId} {n:Nat} (hu:P.underlying t=some (.array n e)) (hi:oX P e=true) (aE:g9 P e=some 1) {p q:List Int} (aQ:p.length=n) (aO:q.length=n) (w:World):
 (Op.equalIn (d+2) t (kL p) (kL q)).run P w= .ok (p==q) w:=by
 unfold kL
 rw[show d+2=(d+1)+1 from rfl,Op.equalIn]
 simp only[Sem.run_bind,eu hu,Result.andThen_ok,lW aE]
 simp only[Std.Legacy.Range.forIn_eq_forIn_range',Std.Legacy.Range.size,Nat.sub_zero,Nat.add_one_sub_one,Nat.div_one]
 have key:∀(m k:Nat),k+m=n→(forIn (m:=Sem) (List.range' k m) ((none,()):Option Bool×Unit) (fun i _=>do
  if (!(←Op.equalIn (d+1) e (←part e (p.map (Value.int .i64)).toArray (i*1)) (←part e (q.map (Value.int .i64)).toArray (i*1))))=true then pure (.done (some false,()))
  else pure (.yield (none,())))).run P w= .ok ((if p.drop k==q.drop k then none else some false),()) w:=by
  intro m
  induction m with
  |zero=>
   intro k ad
   rw[List.drop_of_length_le (by omega),List.drop_of_length_le (by omega)]
   simp
  |succ m cJ=>
   intro k ad
   have gl:k<p.length:=by omega
   have OV:k<q.length:=by omega
   rw[List.range'_succ,List.forIn_cons]
   have aN:(part e (p.map (Value.int .i64)).toArray (k*1)).run P w= .ok (.int .i64 p[k]) w:=D7 hi (by simp[gl]) w
   have aX:(part e (q.map (Value.int .i64)).toArray (k*1)).run P w= .ok (.int .i64 q[k]) w:=D7 hi (by simp[OV]) w
   have cc:(p.drop k==q.drop k)=((p[k]==q[k]) && (p.drop (k+1)==q.drop (k+1))):=by
    rw[List.drop_eq_getElem_cons gl,List.drop_eq_getElem_cons OV];rfl
   simp only[Sem.run_bind,aN,aX,Result.andThen_ok,run_equalIn_int d hi]
   rw[cc]
   cases ay:(p[k]==q[k])
   ·simp only[Bool.not_false,if_true,Sem.run_pure,Result.andThen_ok,Bool.false_and,Bool.false_eq_true,if_false]
   ·simp only[Bool.not_true,Bool.false_eq_true,if_false,Sem.run_pure,Result.andThen_ok,Bool.true_and]
    exact cJ (k+1) (by omega)
 have:=key n 0 (by omega)
 rw[List.drop_zero,List.drop_zero]at this
 rw[this]
 cases ay:(p==q)<;>simp
theorem aj7 (h:bd N aR aL R σ a w rd β) {o:Oper} {x:Operand} (bw:o.op= .assign x) {l:bx} (ae:pF P o.type x=some l) {K:ag→Prop} (ad:bf Γ σ K l):gL P N aR aL R σ a w β o K:=by
 unfold pF at ae
 split at ae
 ·obtain⟨ek,_,rfl⟩:=map_some ae
  simp only[bf]at ad
 ·obtain⟨v,aj,rfl⟩:=map_some ae
  exact ZQ h (.inr bw) aj ad
theorem alx (h:bd N aR aL R σ a w rd β) {o:Oper} {c x y:Operand} (bw:o.op= .pick c x y) {l:bx} (ae:pU P o.type c x y=some l) {K:ag→Prop} (ad:bf Γ σ K l):gL P N aR aL R σ a w β o K:=by
 unfold pU at ae
 split at ae
 ·rename_i c' cM eY h1 h2 aq
  simp only[Option.some.injEq]at ae;subst ae
  simp only[bf]at ad
  have ay:=ez h h1
  split at ad
  ·rename_i t vJ
   rw[vJ]at ay
   simp only[aT,bj]at ay
   cases t with
   |true=>exact iC h (ad.1 rfl) (x4 h h2) (by simp[execOp,bw,ay,asBool])
   |false=>exact iC h (ad.2 rfl) (x4 h aq) (by simp[execOp,bw,ay,asBool])
  ·exact ad.elim
 ·cases ae
theorem aly (h:bd N aR aL R σ a w rd β) {o:Oper} {t:TypeId} {x:Operand} (bw:o.op= .load t x) {l:bx} (ae:pV P t x=some l) {K:ag→Prop} (ad:bf Γ σ K l):gL P N aR aL R σ a w β o K:=by
 unfold pV at ae
 split at ae
 ·rename_i cM n g h1 h2
  simp only[Option.some.injEq]at ae;subst ae
  simp only[bf]at ad
  exact(aj0 h2 h (ez h h1) ad).done (by simp[execOp,bw])
 ·cases ae
theorem akA (h:bd N aR aL R σ a w rd β) {o:Oper} {x:Operand} (bw:o.op= .nilCheck x) {v:bk} (aj:dA P x=some v) {K:ag→Prop} (ad:bf Γ σ K (.zH v)):gL P N aR aL R σ a w β o K:=by
 have ar:=ez h aj
 simp only[bf]at ad
 split at ad
 ·rename_i i off vJ
  rw[vJ]at ar
  have ec:=ar
  simp only[aT]at ar
  obtain⟨r,_,hu⟩:=ar
  exact iC h ad ec (by simp[execOp,bw,hu])
 ·rename_i i j off vJ
  rw[vJ]at ar
  have ec:=ar
  simp only[aT]at ar
  obtain⟨r,_,hu⟩:=ar
  exact iC h ad ec (by simp[execOp,bw,hu])
 ·rename_i cs vJ
  rw[vJ]at ar
  have ec:=ar
  simp only[aT,bj]at ar
  obtain⟨b,o',hu,_⟩:=ar
  exact iC h ad ec (by simp[execOp,bw,hu])
 ·rename_i f Wc lL vJ
  rw[vJ]at ar
  have ec:=ar
  simp only[aT,bj]at ar
  obtain⟨gd,vc,hu,_⟩:=ar
  exact iC h ad ec (by simp[execOp,bw,hu])
 ·rename_i f Wc lL vJ
  rw[vJ]at ar
  have ec:=ar
  simp only[aT]at ar
  obtain⟨gd,vc,hu,_⟩:=ar
  exact iC h ad ec (by simp[execOp,bw,hu])
 ·exact ad.elim
theorem ajK {t e:TypeId} {n:Nat} (hu:P.underlying t=some (.array n e)) (hi:oX P e=true) (aE:g9 P e=some 1) {p q:List Int} (aQ:p.length=n) (aO:q.length=n) (w:World):
 (Op.equal t (kL p) (kL q)).run P w= .ok (p==q) w:=akz 9998 hu hi aE aQ aO w
theorem Xo (h:bd N aR aL R σ a w rd β) {o:Oper} {op:BinOp} {t s4:TypeId} {x y:Operand} (bw:o.op= .binOp op t x y s4) (hy:S1 y=true) (ae:I2 P t=true) {cM:bk} (aj:dA P x=some cM) {ne:Bool}
 (sr:op=(if ne then .neq else .eql)) {K:ag→Prop} (ad:bf Γ σ K (.yj ne cM)):gL P N aR aL R σ a w β o K:=by
 have aur:y= .const .nilIface:=by
  unfold S1 at hy
  split at hy
  ·rfl
  ·cases hy
 subst aur
 have ar:=ez h aj
 have hu:∃ms,P.underlying t=some (.interface ms):=by
  unfold I2 at ae
  split at ae
  ·exact⟨_,by assumption⟩
  ·cases ae
 obtain⟨ms,hu⟩:=hu
 have ct:∀d:Nat,(Op.equalIn (d+1) t .nilIface .nilIface).run P w= .ok true w:=fun d=>by
  simp only[Op.equalIn,Sem.run_bind,eu hu,Result.andThen_ok,Sem.run_pure]
 have db:∀(d:Nat) u v,(Op.equalIn (d+1) t (.iface u v) .nilIface).run P w= .ok false w:=fun d u v=>by
  simp only[Op.equalIn,Sem.run_bind,eu hu,Result.andThen_ok,Sem.run_pure]
 have dP:(Op.equal t .nilIface .nilIface).run P w= .ok true w:=ct 9999
 have fw:∀u v,(Op.equal t (.iface u v) .nilIface).run P w= .ok false w:=db 9999
 have aJ:a.eval (.const .nilIface)= .nilIface:=rfl
 simp only[bf]at ad
 split at ad
 ·rename_i e
  rw[e]at ar
  simp only[aT,bj]at ar
  refine iC h ad (u:= .bool (!ne)) (by simp only[aT,bj]) ?_
  cases ne<;>simp at sr<;>subst sr<;>simp[execOp,bw,ar,aJ,eqGuard,binOp,dP]
 ·rename_i e
  rw[e]at ar
  simp only[aT,bj]at ar
  obtain⟨u,ar,_⟩:=ar
  refine iC h ad (u:= .bool ne) (by simp only[aT,bj]) ?_
  cases ne<;>simp at sr<;>subst sr<;>simp[execOp,bw,ar,aJ,eqGuard,binOp,fw]
 ·exact ad.elim
theorem amE (h:bd N aR aL R σ a w rd β) {o:Oper} {op:BinOp} {t s4:TypeId} {x y:Operand} (bw:o.op= .binOp op t x y s4) {l:bx} (ae:p4 P op t x y=some l) {K:ag→Prop} (ad:bf Γ σ K l):gL P N aR aL R σ a w β o K:=by
 unfold p4 at ae
 split at ae
 ·rename_i ay
  simp only[Bool.and_eq_true]at ay
  split at ae
  ·rename_i cM aj
   simp only[Option.some.injEq]at ae;subst ae
   exact Xo h bw ay.1 ay.2 aj (ne:=false) rfl ad
  ·rename_i cM aj
   simp only[Option.some.injEq]at ae;subst ae
   exact Xo h bw ay.1 ay.2 aj (ne:=true) rfl ad
  ·cases ae
 split at ae
 ·rename_i cM eY h1 h2
  have cQ:=ez h h1
  have gm:=ez h h2
  have N6:bf Γ σ K (.bin op cM eY)→gL P N aR aL R σ a w β o K:=by
   intro ad
   simp only[bf]at ad
   split at ad
   ·rename_i k n cX m aN aX
    rw[aN]at cQ;rw[aX]at gm
    simp only[aT,bj]at cQ gm
    refine(aj5 (op:=op) (t:=t) h ad.1 ad.2).done ?_
    simp only[execOp,bw,cQ,gm]
    cases op<;>simp[eqGuard]
   ·rename_i n m aN aX
    rw[aN]at cQ;rw[aX]at gm
    simp only[aT,bj]at cQ gm
    obtain⟨kZ,aJ,sI⟩:=cQ
    obtain⟨eg,hm,mD⟩:=gm
    refine(aj6 (op:=op) (t:=t) h sI mD ad).done ?_
    simp only[execOp,bw,aJ,hm]
    cases op<;>simp[eqGuard]
   ·exact ad.elim
  have aa7:∀{ne:Bool},yv P t=true→op=(if ne then .neq else .eql)→bf Γ σ K (.yQ ne cM eY)→gL P N aR aL R σ a w β o K:=by
   intro ne aQ sr ad
   simp only[bf]at ad
   split at ad
   ·rename_i p q aN aX
    have cQ:=Rk aN cQ
    have gm:=Rk aX gm
    obtain⟨_,_,_,_,_,_,_,_,_,_,bb⟩:=Ml aQ
    refine iC h ad (u:= .bool (if ne then !(p.1==q.1 && p.2==q.2)else (p.1==q.1 && p.2==q.2))) (by simp only[aT,bj]) ?_
    cases ne<;>simp at sr<;>subst sr<;>
     simp[execOp,bw,cQ,gm,eqGuard,binOp,WY aQ,bb]
   ·exact ad.elim
  have fy:∀{ne:Bool} {n:Nat},Jw P t=some n→op=(if ne then .neq else .eql)→bf Γ σ K (.yR ne n cM eY)→gL P N aR aL R σ a w β o K:=by
   intro ne n aQ sr ad
   simp only[bf]at ad
   split at ad
   ·rename_i p q aN aX
    obtain⟨cI,dS,ad⟩:=ad
    have cQ:=YQ aN cQ
    have gm:=YQ aX gm
    obtain⟨e,hu,hi,bb,aE⟩:=alw aQ
    refine iC h ad (u:= .bool (if ne then !(p==q)else p==q)) (by simp only[aT,bj]) ?_
    have aye:∀op,(eqGuard op t x y (kL p) (kL q)).run P w= .ok () w:=fun op=>by
     unfold kL eqGuard
     cases op<;>simp[bb]
    have eO:=ajK hu hi aE cI dS w
    have fl:binOp .eql t (kL p) (kL q)=(do pure (.bool (←Op.equal t (kL p) (kL q)))):=rfl
    have jX:binOp .neq t (kL p) (kL q)=(do pure (.bool (!(←Op.equal t (kL p) (kL q))))):=rfl
    cases ne<;>simp at sr<;>subst sr<;>
     simp only[execOp,bw,cQ,gm,Sem.run_bind,aye,fl,jX,eO,Result.andThen_ok,Sem.run_pure,Bool.false_eq_true,if_false,if_true]
   ·exact ad.elim
  have aa8:∀{ne:Bool},P.underlying t=some .bool→op=(if ne then .neq else .eql)→bf Γ σ K (.q5 ne cM eY)→gL P N aR aL R σ a w β o K:=by
   intro ne hu sr ad
   simp only[bf]at ad
   split at ad
   ·rename_i n m aN aX
    rw[aN]at cQ;rw[aX]at gm
    simp only[aT,bj]at cQ gm
    refine iC h ad (u:= .bool (if ne then n !=m else n==m)) (by simp only[aT,bj]) ?_
    cases ne<;>simp at sr<;>subst sr<;>
     simp[execOp,bw,cQ,gm,eqGuard,binOp,run_equal_bool hu,bne]
   ·exact ad.elim
  split at ae
  ·rename_i hu
   simp only[Option.some.injEq]at ae;subst ae
   exact aa8 hu rfl ad
  ·rename_i hu
   simp only[Option.some.injEq]at ae;subst ae
   exact aa8 hu rfl ad
  ·simp only[Option.some.injEq]at ae;subst ae
   exact N6 ad
  ·simp only[Option.some.injEq]at ae;subst ae
   exact N6 ad
  ·split at ae
   ·rename_i aQ
    simp only[Option.some.injEq]at ae;subst ae
    exact aa7 aQ rfl ad
   ·obtain⟨n,aJ,rfl⟩:=map_some ae
    exact fy aJ rfl ad
  ·split at ae
   ·rename_i aQ
    simp only[Option.some.injEq]at ae;subst ae
    exact aa7 aQ rfl ad
   ·obtain⟨n,aJ,rfl⟩:=map_some ae
    exact fy aJ rfl ad
  ·cases ae
 ·split at ae
  ·simp only[Option.some.injEq]at ae;subst ae
   simp only[bf]at ad
  ·cases ae
 ·cases ae
theorem aoi (h:bd N aR aL R σ a w rd β) {o:Oper} {op:UnOp} {t:TypeId} {x:Operand} (bw:o.op= .unOp op t x) {v:bk} (aj:dA P x=some v) {K:ag→Prop} (ad:bf Γ σ K (.un op v)):gL P N aR aL R σ a w β o K:=by
 have ar:=ez h aj
 simp only[bf]at ad
 split at ad
 ·rename_i b e
  rw[e]at ar
  simp only[aT,bj]at ar
  exact(Yields.bool (s:=Op.unary .not (a.eval x)) h ad (by simp[ar,Op.unary])).done (by simp[execOp,bw])
 ·rename_i k n e
  rw[e]at ar
  simp only[aT,bj]at ar
  exact(Ct (s:=Op.unary .neg (a.eval x)) h ad (by simp[ar,Op.unary,Op.intArith])).done (by simp[execOp,bw])
 ·rename_i b e
  rw[e]at ar
  simp only[aT,bj]at ar
  obtain⟨y,hu,hy⟩:=ar
  refine iC h ad (u:= .float .f64 (Op.negFloat .f64 y)) (by simp only[aT,bj];exact⟨_,rfl,by rw[alv,hy]⟩) (by simp[execOp,bw,hu,Op.unary])
 ·exact ad.elim
theorem alz (h:bd N aR aL R σ a w rd β) {o:Oper} {s t:TypeId} {x:Operand} (bw:o.op= .convert s t x) {l:bx} (ae:pW P s t x=some l) {K:ag→Prop} (ad:bf Γ σ K l):gL P N aR aL R σ a w β o K:=by
 have eU:∀{cM},(∃d,P.underlying s=some d)→P.underlying t=some (.float .f64)→dA P x=some cM→bf Γ σ K (.ys cM)→gL P N aR aL R σ a w β o K:=by
  rintro cM ⟨d,aE⟩ BO aj ad
  have ar:=ez h aj
  simp only[bf]at ad
  split at ad
  ·rename_i cX n e
   rw[e]at ar
   simp only[aT,bj]at ar
   exact iC h ad (u:= .float .f64 (FloatKind.f64.nearest n)) (by simp only[aT,bj];exact⟨_,rfl,rfl⟩) (by simp[execOp,bw,ar,convert,eu aE,eu BO,Conv.intToFloat])
  ·rename_i b e
   rw[e]at ar
   simp only[aT,bj]at ar
   obtain⟨y,hu,hy⟩:=ar
   exact iC h ad (u:= .float .f64 y) (by simp only[aT,bj];exact⟨_,rfl,hy⟩) (by simp[execOp,bw,hu,convert,eu aE,eu BO,Conv.floatToFloat])
  ·exact ad.elim
 unfold pW at ae
 split at ae
 ·rename_i cM ks k aj aE BO
  simp only[Option.some.injEq]at ae;subst ae
  have ar:=ez h aj
  simp only[bf]at ad
  split at ad
  ·rename_i cX n e
   rw[e]at ar
   simp only[aT,bj]at ar
   exact(Ct (s:=convert s t (a.eval x)) h ad (by simp[ar,convert,eu aE,eu BO,Conv.intToInt])).done (by simp[execOp,bw])
  ·exact ad.elim
 ·rename_i cM ks aj aE BO
  simp only[Option.some.injEq]at ae;subst ae
  exact eU ⟨_,aE⟩ BO aj ad
 ·rename_i cM aj aE BO
  simp only[Option.some.injEq]at ae;subst ae
  exact eU ⟨_,aE⟩ BO aj ad
 ·simp only[Option.some.injEq]at ae;subst ae
  simp only[bf]at ad
 ·cases ae
end
end RV
