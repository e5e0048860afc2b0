/- Lemmas for a claim: an abstract machine for the translated code, proved sound, and contracts of functions. By an AI agent. -/
import Derived.Test.YtmdjhngbigfblaaGreatDoorRb
import Derived.OrdersIn
import Derived.RangeFuncLeaves
import Derived.RangeFuncRecord
import Derived.RangeFuncSeq
import Derived.ScopeJumps
set_option linter.all false
namespace RV
open Go
theorem NG (k:IntKind) (n:Int):ag.dq (.d (.int k n))=true:=rfl
theorem MU (b:Bool):ag.dq (.d (.bool b))=true:=rfl
theorem NH (b:Nat):ag.dq (.d (.flt b))=true:=rfl
theorem MV (k:IntKind) (n:List Int):ag.dq (.d (.ints k n))=true:=rfl
theorem MW (n:List Nat):ag.dq (.d (.flts n))=true:=rfl
theorem MX (k:Nat) (n:List (List D)):ag.dq (.d (.recs k n))=true:=rfl
theorem NI (n:List D):ag.dq (.d (.ptr n))=true:=rfl
theorem O2 (f:Nat) (x y:List D):ag.dq (.d (.fn f x y))=true:=rfl
theorem Mw:ag.dq (.d .nilfn)=true:=rfl
theorem MY:ag.dq (.d .nilp)=true:=rfl
theorem NJ (n:List D):ag.dq (.d (.agg n))=false:=rfl
theorem NK (n:List D):ag.dq (.d (.ep n))=false:=rfl
theorem MZ (n:List ag):ag.dq (.agg n)=false:=rfl
theorem NL:ag.dq .c1=false:=rfl
theorem NM:ag.dq .any=false:=rfl
theorem NN (i o:Nat):ag.dq (.box i o)=true:=rfl
theorem NO (i o n:Nat):ag.dq (.own i o n)=true:=rfl
theorem NP (i o n:Nat):ag.dq (.dr i o n)=true:=rfl
theorem NQ (i:Nat) (o n:List ag):ag.dq (.c0 i o n)=true:=rfl
theorem P4 (i:Nat) (x:D):ag.kill i (.d x)= .d x:=rfl
theorem NR (i:Nat):ag.kill i .c1= .c1:=rfl
theorem NS (i:Nat):ag.kill i .any= .any:=rfl
theorem NT (i j o:Nat):ag.kill i (.box j o)=if j=i then .any else .box j o:=by simp[ag.kill,ag.has]
theorem NU (i j o n:Nat):ag.kill i (.own j o n)=if j=i then .any else .own j o n:=by simp[ag.kill,ag.has]
theorem NV (i j o n:Nat):ag.kill i (.dr j o n)=if j=i then .any else .dr j o n:=by simp[ag.kill,ag.has]
theorem NW (i:Nat) (cs:List ag):ag.kill i (.agg cs)=if ag.cC i cs=true then .any else .agg cs:=by cases h:ag.cC i cs<;>simp[ag.kill,ag.has,h]
theorem NX (i f:Nat) (x y:List ag):ag.kill i (.c0 f x y)=if (ag.cC i x||ag.cC i y)=true then .any else .c0 f x y:=by simp[ag.kill,ag.has]
section
variable {Γ:Env} {Q:eg→St→Prop} {σ σ':St} {K:St→Prop}
theorem xf:bZ Γ .skip Q σ=Q .normal σ:=rfl
theorem P5 (ops:List bE):bZ Γ (.dc ops) Q σ=fA Γ (Q .normal) ops σ:=rfl
theorem Ay (pre:List (bE×List Nat)) (oO:List bE):bZ Γ (.jh pre oO) Q σ=cG Γ (fA Γ (Q .normal) oO) pre (je σ pre):=rfl
theorem AZ (x y:au):bZ Γ (.seq x y) Q σ=bZ Γ x (fun e s=>match e with| .normal=>bZ Γ y Q s|e=>Q e s) σ:=rfl
theorem jF (id:Nat) (x:au):bZ Γ (.block id x) Q σ=bZ Γ x (fun e s=>match e with| .exit j=>if j=id then Q .normal s else Q (.exit j) s|e=>Q e s) σ:=rfl
theorem O3 (id:Nat):bZ Γ (.exit id) Q σ=Q (.exit id) σ:=rfl
theorem P6:bZ Γ .ret Q σ=Q .ret σ:=rfl
theorem NY:fA Γ K [] σ=K σ:=rfl
theorem NZ:cG Γ K [] σ=K σ:=rfl
end
section
variable (σ:St) (i j d t:Nat) (v:ag) (b:b1)
theorem A0:(σ.put (some d) v).af t=if t=d then v else σ.af t:=rfl
theorem Az:(σ.put (some d) v).aw=σ.aw:=rfl
theorem AA:σ.put none v=σ:=rfl
theorem AB:(σ.dK i b).af=σ.af:=rfl
theorem Al:(σ.dK i b).aw j=if j=i then some b else σ.aw j:=rfl
theorem Am:(σ.fresh i b).af t=(σ.af t).kill i:=rfl
theorem z8:(σ.fresh i b).aw j=if j=i then some b else (σ.aw j).map (b1.kill i):=rfl
theorem z9:(σ.forget i).af t=(σ.af t).kill i:=rfl
theorem zT:(σ.forget i).aw j=(σ.aw j).map (b1.kill i):=rfl
theorem A1:(σ.oQ i).af=σ.af:=rfl
theorem AE:(σ.oQ i).aw j=if j=i then (σ.aw j).map (fun b=>⟨true,b.ext,b.c⟩)else σ.aw j:=rfl
theorem A2:σ.aT (.t t)=σ.af t:=rfl
theorem A3 (x:D):σ.aT (.c x)=cX x:=rfl
end
theorem aj:type_of% (And.intro @A0<|And.intro @Az<|And.intro @AA<|And.intro @AB<|And.intro @Al<|And.intro @Am<|And.intro @z8<|And.intro @z9<|And.intro @zT<|And.intro @A1<|And.intro @AE<|And.intro @A2<| @A3):=
 And.intro @A0<|And.intro @Az<|And.intro @AA<|And.intro @AB<|And.intro @Al<|And.intro @Am<|And.intro @z8<|And.intro @z9<|And.intro @zT<|And.intro @A1<|And.intro @AE<|And.intro @A2<| @A3
def cs {α:Type} (a:α) (F:α→Prop):Prop:=F a
@[congr] theorem alk {α:Type} {a b:α} {F:α→Prop} (h:a=b):cs a F=cs b F:=by rw[h]
section
variable (F:ag→Prop)
theorem Sw (x:D):cs (.d x) F=F (.d x):=rfl
theorem P7 (x:List ag):cs (.agg x) F=F (.agg x):=rfl
theorem P8 (i o:Nat):cs (.box i o) F=F (.box i o):=rfl
theorem P9 (i l n:Nat):cs (.own i l n) F=F (.own i l n):=rfl
theorem Qa (i j o:Nat):cs (.dr i j o) F=F (.dr i j o):=rfl
theorem Qb (f:Nat) (x y:List ag):cs (.c0 f x y) F=F (.c0 f x y):=rfl
theorem Qc:cs .c1 F=F .c1:=rfl
theorem Qd:cs .any F=F .any:=rfl
end
theorem O4 (F:Bool→Prop):cs true F=F true:=rfl
theorem N0 (F:Bool→Prop):cs false F=F false:=rfl
section
variable (F:D→Prop)
theorem O5 (k:IntKind) (n:Int):cs (.int k n) F=F (.int k n):=rfl
theorem N1 (b:Bool):cs (.bool b) F=F (.bool b):=rfl
theorem O6 (b:Nat):cs (.flt b) F=F (.flt b):=rfl
theorem N2 (k:IntKind) (n:List Int):cs (.ints k n) F=F (.ints k n):=rfl
theorem N3 (n:List Nat):cs (.flts n) F=F (.flts n):=rfl
theorem N4 (k:Nat) (n:List (List D)):cs (.recs k n) F=F (.recs k n):=rfl
theorem O7 (n:List D):cs (.ptr n) F=F (.ptr n):=rfl
theorem O8 (n:List D):cs (.agg n) F=F (.agg n):=rfl
theorem O9 (n:List D):cs (.ep n) F=F (.ep n):=rfl
theorem Qe (f:Nat) (x y:List D):cs (.fn f x y) F=F (.fn f x y):=rfl
theorem M1:cs .nilfn F=F .nilfn:=rfl
theorem N5:cs .nilp F=F .nilp:=rfl
end
theorem N6 (b w:Bool) (p q:Prop):((b=w→p)∧(b=(!w)→q))=if b=w then p else q:=by
 cases b<;>cases w<;>simp
section
variable (Γ:Env) (σ:St) (K:St→Prop) (Q:eg→St→Prop)
theorem Qf (c:bk) (x y:au):bZ Γ (.cond c x y) Q σ=cs (σ.aT c) fun v=>match v with
 | .d (.bool t)=>if t=true then bZ Γ x Q σ else bZ Γ y Q σ
 |_=>False:=by
 show (match σ.aT c with| .d (.bool t)=>(t=true→bZ Γ x Q σ)∧(t=false→bZ Γ y Q σ)|_=>False)=_
 unfold cs
 generalize σ.aT c=X
 cases X with
 |d z=>cases z with
  |bool t=>cases t<;>simp
  |_=>rfl
 |_=>rfl
theorem Sx (d:Option Nat) (op:bo) (r:List bE):fA Γ K (⟨d,op,none⟩::r) σ=cQ Γ d σ (fA Γ K r) op:=rfl
theorem RC (d:Option Nat) (op:bo) (t:Nat) (w:Bool) (r:List bE):fA Γ K (⟨d,op,some (t,w)⟩::r) σ=cs (σ.af t) fun v=>match v with
 | .d (.bool b)=>if b=w then cQ Γ d σ (fA Γ K r) op else fA Γ K r (σ.put d .c1)
 | .c1=>fA Γ K r (σ.put d .c1)
 |_=>False:=by
 simp only[fA,guarded]
 unfold cs
 generalize σ.af t=X
 cases X with
 |d z=>cases z with
  |bool t=>exact N6 _ _ _ _
  |_=>rfl
 |_=>rfl
theorem RD (d:Option Nat) (op:bo) (bU:List Nat) (r:List (bE×List Nat)):cG Γ K ((⟨d,op,none⟩,bU)::r) σ=mF Γ ⟨d,op,none⟩ bU σ (cG Γ K r):=rfl
theorem Qg (d:Option Nat) (op:bo) (t:Nat) (w:Bool) (bU:List Nat) (r:List (bE×List Nat)):cG Γ K ((⟨d,op,some (t,w)⟩,bU)::r) σ=cs (σ.af t) fun v=>match v with
 | .d (.bool b)=>if b=w then mF Γ ⟨d,op,some (t,w)⟩ bU σ (cG Γ K r)else cG Γ K r (σ.put d .c1)
 | .c1=>cG Γ K r (σ.put d .c1)
 |_=>False:=by
 simp only[cG,guarded]
 unfold cs
 generalize σ.af t=X
 cases X with
 |d z=>cases z with
  |bool t=>exact N6 _ _ _ _
  |_=>rfl
 |_=>rfl
end
section
variable (Γ:Env) (σ:St) (K:ag→Prop)
theorem Sy (x:bk):bj Γ σ K (.bx x)=cs (σ.aT x) K:=rfl
theorem Qh (c x y:bk):bj Γ σ K (.pick c x y)=cs (σ.aT c) fun v=>match v with
 | .d (.bool t)=>if t=true then cs (σ.aT x) K else cs (σ.aT y) K
 |_=>False:=by
 show (match σ.aT c with| .d (.bool t)=>(t=true→K (σ.aT x))∧(t=false→K (σ.aT y))|_=>False)=_
 unfold cs
 generalize σ.aT c=X
 cases X with
 |d z=>cases z with
  |bool t=>cases t<;>simp
  |_=>rfl
 |_=>rfl
theorem Qi (n:Nat) (g:Bool) (x:bk):bj Γ σ K (.load n g x)=cs (σ.aT x) fun v=>iA σ n g v K:=rfl
theorem Pa (n:Nat) (g:Bool) (l:List D):iA σ n g (.d (.ptr l)) K=if g then n≤l.length∧cs (.agg ((l.take n).map .d)) K else cs l.head? fun o=>match o with
 |some d=>K (.d d)
 |none=>False:=by
 unfold cs
 cases g
 ·cases l<;>rfl
 ·rfl
theorem Pb (n:Nat) (g:Bool) (i off:Nat):iA σ n g (.box i off) K=cs (σ.aw i) fun b=>match b with
 |some ⟨_,_,.cells l⟩=>if g then off+n≤l.length∧cs (.agg ((l.drop off).take n)) K else cs l[off]? fun o=>match o with
  |some v=>cs v K
  |none=>False
 |_=>False:=by
 unfold cs
 simp only[iA]
 generalize σ.aw i=X
 rcases X with _|⟨f,e,c⟩
 ·rfl
 ·cases c<;>rfl
theorem Pc (n:Nat) (g:Bool) (i j off:Nat):iA σ n g (.dr i j off) K=cs (σ.aw i) fun b=>match b with
 |some ⟨_,_,.ints k xs⟩=>off=0∧g=false∧j<xs.length∧K (.d (.int k (xs.getD j 0)))
 |some ⟨_,_,.flts xs⟩=>off=0∧g=false∧j<xs.length∧K (.d (.flt (xs.getD j 0)))
 |some ⟨_,_,.recs _ xs⟩=>j<xs.length∧(if g then off+n≤(xs.getD j []).length∧K (.agg ((((xs.getD j []).drop off).take n).map .d))else
  cs (xs.getD j [])[off]? fun o=>match o with
  |some d=>K (.d d)
  |none=>False)
 |_=>False:=by
 unfold cs
 simp only[iA]
 generalize σ.aw i=X
 rcases X with _|⟨f,e,c⟩
 ·rfl
 ·cases c<;>rfl
theorem Pf (x:bk):bj Γ σ K (.pF x)=(RV.cs (σ.aT x) fun eu=>match eu with
 | .box i o=>K (.box i o)
 | .dr i j o=>K (.dr i j o)
 | .d (.ptr cs)=>K (.d (.ptr cs))
 | .d (.fn f a b)=>K (.d (.fn f a b))
 | .c0 f a b=>K (.c0 f a b)
 |_=>False):=rfl
theorem RE (op:BinOp) (x y:bk):bj Γ σ K (.bin op x y)=(RV.cs (σ.aT x) fun eu=>RV.cs (σ.aT y) fun gN=>match eu,gN with
 | .d (.int k a),.d (.int dM b)=>(k=dM∨op= .shl∨op= .shr)∧s4 op k a b K
 | .d (.flt a),.d (.flt b)=>s5 op a b K
 |_,_=>False):=rfl
theorem Qj (ne:Bool) (x y:bk):bj Γ σ K (.kL ne x y)=(RV.cs (σ.aT x) fun eu=>RV.cs (σ.aT y) fun gN=>match eu,gN with
 | .d (.bool a),.d (.bool b)=>K (.d (.bool (if ne then a !=b else a==b)))
 |_,_=>False):=rfl
theorem RF (ne:Bool) (x y:bk):bj Γ σ K (.oN ne x y)=(RV.cs (σ.aT x) fun eu=>RV.cs (σ.aT y) fun gN=>match eu.pair,gN.pair with
 |some p,some q=>K (.d (.bool (if ne then !(p.1==q.1 && p.2==q.2)else (p.1==q.1 && p.2==q.2))))
 |_,_=>False):=rfl
theorem Sz (op:UnOp) (x:bk):bj Γ σ K (.un op x)=(RV.cs (σ.aT x) fun eu=>match op,eu with
 | .not,.d (.bool b)=>K (.d (.bool (!b)))
 | .neg,.d (.int k n)=>arith k (0 - n) K
 | .neg,.d (.flt b)=>K (.d (.flt (Bm b)))
 |_,_=>False):=rfl
theorem Qk (k:IntKind) (x:bk):bj Γ σ K (.conv k x)=(RV.cs (σ.aT x) fun eu=>match eu with
 | .d (.int _ n)=>arith k n K
 |_=>False):=rfl
theorem Pg (x:bk):bj Γ σ K (.oA x)=(RV.cs (σ.aT x) fun eu=>match eu with
 | .d (.int _ n)=>K (.d (.flt (PY n)))
 | .d (.flt b)=>K (.d (.flt b))
 |_=>False):=rfl
theorem Ph (off:Nat) (x:bk):bj Γ σ K (.dA off x)=(RV.cs (σ.aT x) fun eu=>match eu with
 | .box i o=>K (.box i (o+off))
 | .dr i j o=>K (.dr i j (o+off))
 | .d (.ptr cs)=>K (.d (.ptr (cs.drop off)))
 |_=>False):=rfl
theorem RG (off n:Nat) (g:Bool) (x:bk):bj Γ σ K (.rr off n g x)=(RV.cs (σ.aT x) fun eu=>match eu with
 | .agg cs=>if g then off+n≤cs.length∧K (.agg ((cs.drop off).take n))else
   RV.cs (cs[off]?) fun gN=>match gN with
   |some v=>K v
   |none=>False
 |_=>False):=rfl
theorem Pj (sz:Nat) (x i:bk):bj Γ σ K (.q0 sz x i)=(RV.cs (σ.aT i) fun eu=>match eu with
 | .d (.int _ n)=>RV.cs (σ.aT x) fun Y=>ov σ sz Y n K
 |_=>False):=rfl
theorem Pk (len sz:Nat) (x i:bk):bj Γ σ K (.q1 len sz x i)=(RV.cs (σ.aT x) fun eu=>RV.cs (σ.aT i) fun gN=>match eu,gN with
 | .box b o,.d (.int _ n)=>0≤n∧n<len∧K (.box b (o+n.toNat*sz))
 | .d (.ptr cs),.d (.int _ n)=>0≤n∧n<len∧K (.d (.ptr (cs.drop (n.toNat*sz))))
 |_,_=>False):=rfl
theorem RH (len n:Nat) (g:Bool) (x i:bk):bj Γ σ K (.idx len n g x i)=(RV.cs (σ.aT x) fun eu=>RV.cs (σ.aT i) fun gN=>match eu,gN with
 | .agg cs,.d (.int _ j)=>0≤j∧j<len∧(if g then j.toNat*n+n≤cs.length∧K (.agg ((cs.drop (j.toNat*n)).take n))else
   RV.cs (cs[j.toNat*n]?) fun K9=>match K9 with
   |some v=>K v
   |none=>False)
 |_,_=>False):=rfl
theorem Ql (i:Nat) (x:bk):bj Γ σ K (.lC i x)=(RV.cs (σ.aT x) fun eu=>match eu with
 | .d (.ep ds)=>RV.cs (ds[i]?) fun gN=>match gN with
   |some d=>RV.cs (cX d) K
   |none=>False
 |_=>False):=rfl
theorem RI (x:bk):bj Γ σ K (.len x)=(RV.cs (σ.aT x) fun X=>ve X K):=rfl
theorem SA (x y:bk):bj Γ σ K (.jW x y)=(RV.cs (σ.aT x) fun eu=>RV.cs (σ.aT y) fun gN=>match eu,gN with
 | .d (.int k a),.d (.int _ b)=>K (.d (.int k (if b>a then b else a)))
 |_,_=>False):=rfl
theorem SB (x y:bk):bj Γ σ K (.sc x y)=(RV.cs (σ.aT x) fun eu=>RV.cs (σ.aT y) fun gN=>match eu,gN with
 | .d (.int k a),.d (.int _ b)=>K (.d (.int k (if b<a then b else a)))
 |_,_=>False):=rfl
theorem RJ (sz:Nat) (x:bk) (lo hi:Option bk):bj Γ σ K (.ru sz x lo hi)=(RV.cs (σ.aT x) fun X=>RV.cs (lo.map σ.aT) fun L=>RV.cs (hi.map σ.aT) fun H=>lD σ sz X L H K):=rfl
theorem Pl (zero:List D) (parts:List (Nat×Nat×bk)):bj Γ σ K (.build zero parts)=(RV.cs (oB (zero.map .d) (parts.map fun p=>(p.1,p.2.1,σ.aT p.2.2))) fun eu=>match eu with
 |some cs=>K (.agg cs)
 |none=>False):=rfl
theorem RK (ek:dL) (parts:List bk):bj Γ σ K (.hM ek parts)=(ag.fO (ch σ parts)=true∧RV.cs (toDs σ (ch σ parts)) fun eu=>match eu with
 |some ds=>RV.cs (asSlice ek ds) fun gN=>match gN with
  |some d=>K (.d d)
  |none=>False
 |none=>False):=rfl
theorem Qm (f:Nat) (fst cap:List bk):bj Γ σ K (.q6 f fst cap)=(if (ag.fO (ch σ fst) && ag.fO (ch σ cap))=true then
 RV.cs (toDs σ (ch σ fst)) fun eu=>RV.cs (toDs σ (ch σ cap)) fun gN=>match eu,gN with
 |some a,some b=>K (.d (.fn f a b))
 |_,_=>False
 else K (.c0 f (ch σ fst) (ch σ cap))):=rfl
theorem Qn (f:Nat) (args:List bk):bj Γ σ K (.call f args)=(RV.cs (toDs σ (ch σ args)) fun eu=>RV.cs (Γ.fn f) fun gN=>match eu,gN with
 |some ds,some C=>C.pre ds∧((C.res ds).flat=true∨ag.fO (ch σ args)=true)∧RV.cs (C.res ds) fun d=>K (cX d)
 |_,_=>False):=rfl
theorem Pm (x:bk) (args:List bk):bj Γ σ K (.gj x args)=(RV.cs (σ.aT x) fun eu=>match eu with
 | .d (.fn f fst cap)=>RV.cs (toDs σ (ch σ args)) fun gN=>RV.cs (Γ.fn f) fun K9=>match gN,K9 with
   |some ds,some C=>C.pre (fst++ds++cap)∧((C.res (fst++ds++cap)).flat=true∨ag.fO (ch σ args)=true)∧RV.cs (C.res (fst++ds++cap)) fun d=>K (cX d)
   |_,_=>False
 | .c0 f fst cap=>RV.cs (Γ.mt f) fun akw=>match akw with
   |some C=>RV.cs (some (fst++ch σ args++cap)) fun Y=>match Y with
    |some vs=>oE C σ K vs
    |none=>False
   |none=>False
 |_=>False):=rfl
theorem Qo (C:fL) (vs:List ag):oE C σ K vs=(RV.cs (some (distinct (ag.gE vs))) fun is=>match is with
 |some is=>RV.cs (contents σ (fun _=>false) is) fun X=>match X with
  |some cs=>RV.cs (some (ag.e5 (fun i=>bF+placeOf is i) vs)) fun Y=>match Y with
   |some bG=>C.pre bG cs∧C.out bG cs=cs∧RV.cs (C.res bG cs) fun d=>K (cX d)
   |none=>False
  |none=>False
 |none=>False):=rfl
end
section
variable (Γ:Env) (σ:St) (K:St→Prop) (dst:Option Nat)
theorem RL (ek:dL) (zero:List D) (n:bk) (i:Nat):cQ Γ (some i) σ K (.kT ek zero n)=(RV.cs (σ.aT n) fun X=>match X with
 | .d (.int _ n)=>RV.cs (ni ek zero n.toNat) fun Y=>match Y with
   |some c=>0≤n∧n≤bL∧K ((σ.fresh i ⟨false,false,c⟩).put (some i) (.own i 0 n.toNat))
   |none=>False
 |_=>False):=by
 simp only[cQ,RV.cs]
 generalize σ.aT n=X
 cases X with
 |d z=>cases z<;>rfl
 |_=>rfl
theorem RM (x:bk) (i:Nat):cQ Γ (some i) σ K (.box x)=(RV.cs (σ.aT x) fun X=>X.has i=false∧X.cells.all ag.dq=true∧K ((σ.fresh i ⟨false,false,.cells X.cells⟩).put (some i) (.box i 0))):=rfl
theorem Pn (zero:List D) (i:Nat):cQ Γ (some i) σ K (.alloc zero)=K ((σ.fresh i ⟨false,false,.cells (zero.map .d)⟩).put (some i) (.box i 0)):=rfl
theorem RN (ek:dL) (i:Nat):cQ Γ (some i) σ K (.nil ek)=K ((σ.fresh i ⟨false,false,lj ek⟩).put (some i) (.own i 0 0)):=rfl
theorem Po (n:Nat) (a x:bk):cQ Γ dst σ K (.store n a x)=(RV.cs (σ.aT a) fun X=>match X with
 | .box i off=>RV.cs (σ.aw i) fun Y=>match Y with
   |some ⟨false,e,c⟩=>RV.cs (σ.aT x) fun Z=>Z.cells.length=n∧Z.cells.all ag.dq=true∧RV.cs (lu c off Z.cells) fun U=>match U with
    |some c=>K ((σ.dK i ⟨false,e,c⟩).put dst .c1)
    |none=>False
   |_=>False
 | .dr i j off=>RV.cs (σ.aw i) fun Y=>match Y with
   |some ⟨false,e,c⟩=>RV.cs (σ.aT x) fun Z=>Z.cells.length=n∧Z.cells.all ag.dq=true∧RV.cs (nj c j off Z.cells) fun U=>match U with
    |some c=>K ((σ.dK i ⟨false,e,c⟩).put dst .c1)
    |none=>False
   |_=>False
 |_=>False):=rfl
theorem RO (ek:dL) (x y:bk):cQ Γ dst σ K (.app ek x y)=(RV.cs (σ.aT x) fun X=>match X with
 | .own i lo n=>RV.cs (σ.aw i) fun Y=>RV.cs (toD σ (σ.aT y)) fun Z=>match Y,Z with
   |some ⟨false,false,c⟩,some d=>RV.cs (s6 c d) fun U=>match U with
    |some c'=>jM (σ.aw i)=some ek.sz∧lo=0∧n=c.count∧c'.count≤bL∧K (((σ.forget i).dK i ⟨false,false,c'⟩).put dst (.own i 0 c'.count))
    |none=>False
   |_,_=>False
 |_=>False):=rfl
theorem Qp (ek:dL) (x y:bk):cQ Γ dst σ K (.copy ek x y)=(RV.cs (σ.aT x) fun X=>match X with
 | .own i lo n=>RV.cs (σ.aw i) fun Y=>RV.cs (toD σ (σ.aT y)) fun Z=>match Y,Z with
   |some ⟨false,e,c⟩,some d=>RV.cs (sU c lo n d) fun U=>match U with
    |some (c',m)=>jM (σ.aw i)=some ek.sz∧K ((σ.dK i ⟨false,e,c'⟩).put dst (.d (.int .i64 m)))
    |none=>False
   |_,_=>False
 |_=>False):=rfl
theorem Pp (f:Nat) (args:List bk):cQ Γ dst σ K (.call f args)=(RV.cs (ch σ args) fun vs=>ly Γ dst σ K f vs):=rfl
theorem N7 (x:bk) (args:List bk):cQ Γ dst σ K (.gj x args)=(RV.cs (σ.aT x) fun X=>match X with
 | .d (.fn f fst cap)=>RV.cs (fst.map cX++ch σ args++cap.map cX) fun vs=>ly Γ dst σ K f vs
 | .c0 f fst cap=>RV.cs (fst++ch σ args++cap) fun vs=>ly Γ dst σ K f vs
 |_=>False):=rfl
theorem Pq (f:Nat) (vs:List ag):ly Γ dst σ K f vs=(RV.cs (Γ.mt f) fun X=>match X with
 |some C=>lx C dst σ K vs
 |none=>RV.cs (Γ.fn f) fun Y=>match Y with
  |some C=>nu C dst σ K vs
  |none=>False):=by
 unfold ly RV.cs
 cases Γ.mt f with
 |some C=>rfl
 |none=>cases Γ.fn f<;>rfl
def FA (C:bq) (dst:Option Nat) (σ:St) (K:St→Prop) (vs:List ag):Prop:=RV.cs (toDs σ vs) fun X=>match X with
    |some ds=>C.pre ds∧RV.cs (C.res ds) fun d=>if (d.flat||ag.fO vs)=true then K (σ.put dst (cX d))
     else jL σ vs=true∧K ((ih σ vs).put dst (cX d))
    |none=>False
def FB (C:bq) (dst:Option Nat) (σ:St) (K:St→Prop) (vs:List ag):Prop:=RV.cs (toDs σ vs) fun X=>match X with
    |some ds=>C.pre ds∧RV.cs (C.res ds) fun d=>RV.cs (hL d) fun Y=>match dst,Y with
     |some i,some (c,n)=>K ((σ.fresh i ⟨false,false,c⟩).put (some i) (.own i 0 n))
     |_,_=>False
    |none=>False
theorem Pr (C:bq) (vs:List ag) (h:C.own=false):nu C dst σ K vs=FA C dst σ K vs:=by
 unfold nu
 simp only[h,Bool.false_eq_true,if_false,FA,RV.cs]
 rfl
theorem N8 (C:bq) (vs:List ag) (h:C.own=true):nu C dst σ K vs=FB C dst σ K vs:=by
 unfold nu
 simp only[h,if_true,FB,RV.cs]
 rfl
theorem N9 (C:bq) (vs:List ag):FA C dst σ K vs=(RV.cs (toDs σ vs) fun X=>match X with
 |some ds=>C.pre ds∧RV.cs (C.res ds) fun d=>if (d.flat||ag.fO vs)=true then K (σ.put dst (cX d))
  else jL σ vs=true∧K ((ih σ vs).put dst (cX d))
 |none=>False):=rfl
theorem Oa (C:bq) (vs:List ag):FB C dst σ K vs=(RV.cs (toDs σ vs) fun X=>match X with
 |some ds=>C.pre ds∧RV.cs (C.res ds) fun d=>RV.cs (hL d) fun Y=>match dst,Y with
  |some i,some (c,n)=>K ((σ.fresh i ⟨false,false,c⟩).put (some i) (.own i 0 n))
  |_,_=>False
 |none=>False):=rfl
theorem Ps (x:bk):cQ Γ dst σ K (.q2 x)=(RV.cs (σ.aT x) fun v=>RV.cs (toD σ v) fun X=>match X with
 |some d=>d.xC=true∧∀b:Bool,(b=true→d.emp=true)→K (σ.put dst (.d (.bool b)))
 |none=>False):=rfl
theorem Qq (l:au) (rs:List bl) (bG:List D) (K:D→Prop):xJ Γ l rs bG K=bZ Γ l (fun e σ=>match e with
 | .exit _=>False
 |_=>xI rs σ K) (mG bG):=rfl
theorem Qr (t:Nat) (K:D→Prop):xI [.tmp t] σ K=(RV.cs (σ.af t) fun X=>match X with
 | .own i lo n=>RV.cs (σ.aw i) fun Y=>match Y with
   |some ⟨false,false,.ints k xs⟩=>lo=0∧xs.length=n∧K (.ints k xs)
   |some ⟨false,false,.flts xs⟩=>lo=0∧xs.length=n∧K (.flts xs)
   |_=>False
 |_=>False):=rfl
theorem Pt (C:fL) (vs:List ag):lx C dst σ K vs=(RV.cs (some (reach σ (reach σ (distinct (ag.gE vs))))) fun is=>match is with
 |some is=>ow C dst σ K vs is
 |none=>False):=rfl
theorem Ob (C:fL) (vs:List ag) (is:List Nat):ow C dst σ K vs is=(RV.cs (contents σ (fun i=>is.contains i) is) fun X=>match X with
 |some B6=>RV.cs (some (ag.e5 (fun i=>bF+placeOf is i) vs,B6.map (BC.c7 fun i=>bF+placeOf is i))) fun Y=>match Y with
  |some (bG,cs)=>C.pre bG cs∧RV.cs (some (C.out bG cs,C.res bG cs)) fun Z=>match Z with
   |some (o,d)=>o.length=is.length∧o.all (BC.tidy (pH is.length))=true∧K ((gg σ is (o.map (BC.c7 fun i=>is.getD (i - bF) 0))).put dst (cX d))
   |none=>False
  |none=>False
 |none=>False):=rfl
end
section
variable (Γ:Env) (σ:St) (K:St→Prop) (F:ag→Prop) (dst:Option Nat)
theorem SC (x:bk):cQ Γ dst σ K (.bx x)=RV.cs (σ.aT x) fun v=>K (σ.put dst v):=rfl
theorem Qs (c x y:bk):cQ Γ dst σ K (.pick c x y)=bj Γ σ (fun v=>K (σ.put dst v)) (.pick c x y):=rfl
theorem Qt (n:Nat) (g:Bool) (x:bk):cQ Γ dst σ K (.load n g x)=bj Γ σ (fun v=>K (σ.put dst v)) (.load n g x):=rfl
theorem Pu (x:bk):cQ Γ dst σ K (.pF x)=bj Γ σ (fun v=>K (σ.put dst v)) (.pF x):=rfl
theorem RP (op:BinOp) (x y:bk):cQ Γ dst σ K (.bin op x y)=bj Γ σ (fun v=>K (σ.put dst v)) (.bin op x y):=rfl
theorem Qu (ne:Bool) (x y:bk):cQ Γ dst σ K (.kL ne x y)=bj Γ σ (fun v=>K (σ.put dst v)) (.kL ne x y):=rfl
theorem RQ (ne:Bool) (x y:bk):cQ Γ dst σ K (.oN ne x y)=bj Γ σ (fun v=>K (σ.put dst v)) (.oN ne x y):=rfl
theorem SD (op:UnOp) (x:bk):cQ Γ dst σ K (.un op x)=bj Γ σ (fun v=>K (σ.put dst v)) (.un op x):=rfl
theorem Qv (k:IntKind) (x:bk):cQ Γ dst σ K (.conv k x)=bj Γ σ (fun v=>K (σ.put dst v)) (.conv k x):=rfl
theorem Pv (x:bk):cQ Γ dst σ K (.oA x)=bj Γ σ (fun v=>K (σ.put dst v)) (.oA x):=rfl
theorem Pw (off:Nat) (x:bk):cQ Γ dst σ K (.dA off x)=bj Γ σ (fun v=>K (σ.put dst v)) (.dA off x):=rfl
theorem RS (off n:Nat) (g:Bool) (x:bk):cQ Γ dst σ K (.rr off n g x)=bj Γ σ (fun v=>K (σ.put dst v)) (.rr off n g x):=rfl
theorem Px (sz:Nat) (x i:bk):cQ Γ dst σ K (.q0 sz x i)=bj Γ σ (fun v=>K (σ.put dst v)) (.q0 sz x i):=rfl
theorem Py (len sz:Nat) (x i:bk):cQ Γ dst σ K (.q1 len sz x i)=bj Γ σ (fun v=>K (σ.put dst v)) (.q1 len sz x i):=rfl
theorem RT (len n:Nat) (g:Bool) (x i:bk):cQ Γ dst σ K (.idx len n g x i)=bj Γ σ (fun v=>K (σ.put dst v)) (.idx len n g x i):=rfl
theorem Qw (i:Nat) (x:bk):cQ Γ dst σ K (.lC i x)=bj Γ σ (fun v=>K (σ.put dst v)) (.lC i x):=rfl
theorem RU (x:bk):cQ Γ dst σ K (.len x)=bj Γ σ (fun v=>K (σ.put dst v)) (.len x):=rfl
theorem SE (x y:bk):cQ Γ dst σ K (.jW x y)=bj Γ σ (fun v=>K (σ.put dst v)) (.jW x y):=rfl
theorem SF (x y:bk):cQ Γ dst σ K (.sc x y)=bj Γ σ (fun v=>K (σ.put dst v)) (.sc x y):=rfl
theorem RW (sz:Nat) (x:bk) (lo hi:Option bk):cQ Γ dst σ K (.ru sz x lo hi)=bj Γ σ (fun v=>K (σ.put dst v)) (.ru sz x lo hi):=rfl
theorem Pz (zero:List D) (parts:List (Nat×Nat×bk)):cQ Γ dst σ K (.build zero parts)=bj Γ σ (fun v=>K (σ.put dst v)) (.build zero parts):=rfl
theorem RX (ek:dL) (parts:List bk):cQ Γ dst σ K (.hM ek parts)=bj Γ σ (fun v=>K (σ.put dst v)) (.hM ek parts):=rfl
theorem Qx (f:Nat) (fst cap:List bk):cQ Γ dst σ K (.q6 f fst cap)=bj Γ σ (fun v=>K (σ.put dst v)) (.q6 f fst cap):=rfl
end
section
variable (Γ:Env) (σ:St)
theorem Qy (x:bk) (K:ag→b1→Prop) (i:Nat):made σ (.box x) K i=(RV.cs (σ.aT x) fun X=>X.cells.all ag.dq=true∧K (.box i 0) ⟨false,false,.cells X.cells⟩):=rfl
theorem Qz (ek:dL) (zero:List D) (n:bk) (K:ag→b1→Prop) (i:Nat):made σ (.kT ek zero n) K i=(RV.cs (σ.aT n) fun X=>match X with
 | .d (.int _ n)=>RV.cs (ni ek zero n.toNat) fun Y=>match Y with
   |some c=>0≤n∧n≤bL∧K (.own i 0 n.toNat) ⟨false,false,c⟩
   |none=>False
 |_=>False):=rfl
theorem Oc (zero:List D) (K:ag→b1→Prop) (i:Nat):made σ (.alloc zero) K i=K (.box i 0) ⟨false,false,.cells (zero.map .d)⟩:=rfl
theorem QA (ek:dL) (K:ag→b1→Prop) (i:Nat):made σ (.nil ek) K i=K (.own i 0 0) ⟨false,false,lj ek⟩:=rfl
theorem Od (n p:Nat) (x:bk) (K:Nat→b1→Prop):stored σ n (.t p) x K=(RV.cs (σ.aT (.t p)) fun X=>match X with
 | .box i off=>i=p∧RV.cs (σ.aw i) fun Y=>match Y with
   |some ⟨false,e,c⟩=>RV.cs (σ.aT x) fun Z=>Z.cells.length=n∧Z.cells.all ag.dq=true∧RV.cs (lu c off Z.cells) fun U=>match U with
    |some c=>K i ⟨false,e,c⟩
    |none=>False
   |_=>False
 |_=>False):=by
 simp only[stored,RV.cs]
 generalize σ.aT (.t p)=X
 cases X<;>rfl
theorem M3 (n:Nat) (a x:bk) (K:Nat→b1→Prop):om σ n a x K=(RV.cs (σ.aT a) fun X=>match X with
 | .box i off=>RV.cs (σ.aw i) fun Y=>match Y with
   |some ⟨false,e,c⟩=>RV.cs (σ.aT x) fun Z=>Z.cells.length=n∧Z.cells.all ag.dq=true∧RV.cs (lu c off Z.cells) fun U=>match U with
    |some c=>K i ⟨false,e,c⟩
    |none=>False
   |_=>False
 | .dr i j off=>RV.cs (σ.aw i) fun Y=>match Y with
   |some ⟨false,e,c⟩=>RV.cs (σ.aT x) fun Z=>Z.cells.length=n∧Z.cells.all ag.dq=true∧RV.cs (nj c j off Z.cells) fun U=>match U with
    |some c=>K i ⟨false,e,c⟩
    |none=>False
   |_=>False
 |_=>False):=rfl
theorem Oe (dst:Option Nat) (K:St→Prop) (f:Nat) (as:List bk):q3 Γ dst [] σ K f as=(RV.cs (Γ.mt f) fun X=>match X with
 |some C=>RV.cs (ch σ as) fun vs=>lx C dst σ K vs
 |none=>lE Γ dst (.call f as) σ K):=by
 unfold q3 RV.cs
 cases Γ.mt f<;>rfl
theorem Og (dst:Option Nat) (K:St→Prop) (i:Nat) (bU:List Nat) (f:Nat) (as:List bk):q3 Γ dst (i::bU) σ K f as=lE Γ dst (.call f as) σ K:=rfl
theorem M4 (n:Nat) (a x:bk) (K:Nat→b1→Prop):nf [] σ n a x K=om σ n a x K:=rfl
theorem M5 (i:Nat) (bU:List Nat) (n:Nat) (a x:bk) (K:Nat→b1→Prop):nf (i::bU) σ n a x K=stored σ n a x K:=rfl
theorem QB (rs:List bl) (K:D→Prop):iD rs σ K=(RV.cs (mr σ rs) fun X=>match X with
 |some vs=>jL σ vs=true∧RV.cs (toDs σ vs) fun Y=>match Y with
  |some ds=>K (q7 ds)
  |none=>False
 |none=>False):=rfl
theorem fP (l:au) (rs:List bl) (args:List D) (K:D→Prop):bH Γ l rs args K=bZ Γ l (fun e σ=>match e with| .exit _=>False|_=>iD rs σ K) (mG args):=rfl
theorem QC (l:au) (rs:List bl) (bG:List ag) (cs:List BC) (K:D→List BC→Prop):nE Γ l rs bG cs K=bZ Γ l (fun e σ=>match e with
 | .exit _=>False
 |_=>iD rs σ fun d=>RV.cs (nk σ cs.length 0 cs.length) fun X=>match X with
  |some cs'=>K d cs'
  |none=>False) (oF bG cs):=rfl
theorem QD (args:List D) (t:Nat):(mG args).af t=match args[t]? with|some d=>cX d|none=> .c1:=rfl
theorem QE (args:List D) (t:Nat):(mG args).aw t=none:=rfl
theorem PA (args:List ag) (cs:List BC) (t:Nat):(oF args cs).af t=match args[t]? with|some d=>d|none=> .c1:=rfl
theorem E8 (args:List ag) (cs:List BC) (t:Nat):(oF args cs).aw t=if bF≤t then (cs[t - bF]?).map (fun c=>⟨false,true,c⟩)else none:=rfl
theorem Oh (args:List ag) (cs:List BC) (t:Nat):(oF args cs).aw (bF+t)=(cs[t]?).map (fun c=>⟨false,true,c⟩):=by
 rw[E8,if_pos (Nat.le_add_right _ _),Nat.add_sub_cancel_left]
end
abbrev Env.has (Γ:Env) (f:Nat) (C:bq):Prop:=Γ.fn f=some C∧Γ.mt f=none∧C.own=false
theorem QF (F:Option (BC)→Prop):cs none F=F none:=rfl
theorem QG (F:Option (BC)→Prop) (a:BC):cs (some a) F=F (some a):=rfl
theorem QH (F:Option (b1)→Prop):cs none F=F none:=rfl
theorem QI (F:Option (b1)→Prop) (a:b1):cs (some a) F=F (some a):=rfl
theorem RY (F:Option (D)→Prop):cs none F=F none:=rfl
theorem RZ (F:Option (D)→Prop) (a:D):cs (some a) F=F (some a):=rfl
theorem QJ (F:Option (List D)→Prop):cs none F=F none:=rfl
theorem QK (F:Option (List D)→Prop) (a:List D):cs (some a) F=F (some a):=rfl
theorem QL (F:Option (ag)→Prop):cs none F=F none:=rfl
theorem QM (F:Option (ag)→Prop) (a:ag):cs (some a) F=F (some a):=rfl
theorem PB (F:Option (List ag)→Prop):cs none F=F none:=rfl
theorem PC (F:Option (List ag)→Prop) (a:List ag):cs (some a) F=F (some a):=rfl
theorem PD (F:Option (List BC)→Prop):cs none F=F none:=rfl
theorem PE (F:Option (List BC)→Prop) (a:List BC):cs (some a) F=F (some a):=rfl
theorem QN (F:Option (bq)→Prop):cs none F=F none:=rfl
theorem QO (F:Option (bq)→Prop) (a:bq):cs (some a) F=F (some a):=rfl
theorem QP (F:Option (fL)→Prop):cs none F=F none:=rfl
theorem QQ (F:Option (fL)→Prop) (a:fL):cs (some a) F=F (some a):=rfl
theorem QR (F:Option (BC×Nat)→Prop):cs none F=F none:=rfl
theorem QS (F:Option (BC×Nat)→Prop) (a:BC×Nat):cs (some a) F=F (some a):=rfl
theorem QT (F:Option (List Nat)→Prop):cs none F=F none:=rfl
theorem QU (F:Option (List Nat)→Prop) (a:List Nat):cs (some a) F=F (some a):=rfl
theorem QV (F:Option (List ag×List BC)→Prop):cs none F=F none:=rfl
theorem QW (F:Option (List ag×List BC)→Prop) (a:List ag×List BC):cs (some a) F=F (some a):=rfl
theorem QX (F:Option (List BC×D)→Prop):cs none F=F none:=rfl
theorem QY (F:Option (List BC×D)→Prop) (a:List BC×D):cs (some a) F=F (some a):=rfl
theorem PF (F:List ag→Prop):cs [] F=F []:=rfl
theorem Oi (F:List ag→Prop) (a:ag) (l:List ag):cs (a::l) F=F (a::l):=rfl
theorem ak:type_of% (And.intro @xf<|And.intro @P5<|And.intro @Ay<|And.intro @AZ<|And.intro @Qf<|And.intro @jF<|And.intro @O3<|And.intro @P6<|And.intro @NY<|And.intro @Sx<|And.intro @RC<|And.intro @NZ<|And.intro @RD<|And.intro @Qg<|And.intro @Sw<|And.intro @P7<|And.intro @P8<|And.intro @P9<|And.intro @Qa<|And.intro @Qb<|And.intro @Qc<|And.intro @Qd<|And.intro @O4<|And.intro @N0<|And.intro @O5<|And.intro @N1<|And.intro @O6<|And.intro @N2<|And.intro @N3<|And.intro @N4<|And.intro @O7<|And.intro @O8<|And.intro @O9<|And.intro @Qe<|And.intro @M1<|And.intro @N5<|And.intro @Sy<|And.intro @Qh<|And.intro @Qi<|And.intro @Pa<|And.intro @Pb<|And.intro @Pc<|And.intro @Pf<|And.intro @RE<|And.intro @Qj<|And.intro @RF<|And.intro @Sz<|And.intro @Qk<|And.intro @Pg<|And.intro @Ph<|And.intro @RG<|And.intro @Pj<|And.intro @Pk<|And.intro @RH<|And.intro @Ql<|And.intro @RI<|And.intro @SA<|And.intro @SB<|And.intro @RJ<|And.intro @Pl<|And.intro @RK<|And.intro @Qm<|And.intro @Qn<|And.intro @Pm<|And.intro @RL<|And.intro @RM<|And.intro @Pn<|And.intro @RN<|And.intro @Po<|And.intro @RO<|And.intro @Qp<|And.intro @M3<|And.intro @M4<|And.intro @Oe<|And.intro @Og<|And.intro @M5<|And.intro @Ps<|And.intro @Qq<|And.intro @Qr<|And.intro @Pp<|And.intro @N7<|And.intro @Pq<|And.intro @Pr<|And.intro @N8<|And.intro @N9<|And.intro @Oa<|And.intro @Pt<|And.intro @Ob<|And.intro @Qo<|And.intro @SC<|And.intro @Qs<|And.intro @Qt<|And.intro @Pu<|And.intro @RP<|And.intro @Qu<|And.intro @RQ<|And.intro @SD<|And.intro @Qv<|And.intro @Pv<|And.intro @Pw<|And.intro @RS<|And.intro @Px<|And.intro @Py<|And.intro @RT<|And.intro @Qw<|And.intro @RU<|And.intro @SE<|And.intro @SF<|And.intro @RW<|And.intro @Pz<|And.intro @RX<|And.intro @Qx<|And.intro @Qy<|And.intro @Qz<|And.intro @Oc<|And.intro @QA<|And.intro @Od<|And.intro @QB<|And.intro @fP<|And.intro @QC<|And.intro @QD<|And.intro @QE<|And.intro @PA<|And.intro @E8<|And.intro @Oh<|And.intro @ve.eq_def<|And.intro @ov.eq_def<|And.intro @lD.eq_def<|And.intro @bound.eq_def<|And.intro @s4.eq_def<|And.intro @arith.eq_def<|And.intro @s5.eq_def<|And.intro @mF.eq_def<|And.intro @lE.eq_def<|And.intro @u3.eq_def<|And.intro @A0<|And.intro @Az<|And.intro @AA<|And.intro @AB<|And.intro @Al<|And.intro @Am<|And.intro @z8<|And.intro @z9<|And.intro @zT<|And.intro @A1<|And.intro @AE<|And.intro @A2<|And.intro @A3<|And.intro @QF<|And.intro @QG<|And.intro @QH<|And.intro @QI<|And.intro @RY<|And.intro @RZ<|And.intro @QJ<|And.intro @QK<|And.intro @QL<|And.intro @QM<|And.intro @PB<|And.intro @PC<|And.intro @PD<|And.intro @PE<|And.intro @QN<|And.intro @QO<|And.intro @QP<|And.intro @QQ<|And.intro @QR<|And.intro @QS<|And.intro @QT<|And.intro @QU<|And.intro @QV<|And.intro @QW<|And.intro @QX<|And.intro @QY<|And.intro @PF<| @Oi):=
 And.intro @xf<|And.intro @P5<|And.intro @Ay<|And.intro @AZ<|And.intro @Qf<|And.intro @jF<|And.intro @O3<|And.intro @P6<|And.intro @NY<|And.intro @Sx<|And.intro @RC<|And.intro @NZ<|And.intro @RD<|And.intro @Qg<|And.intro @Sw<|And.intro @P7<|And.intro @P8<|And.intro @P9<|And.intro @Qa<|And.intro @Qb<|And.intro @Qc<|And.intro @Qd<|And.intro @O4<|And.intro @N0<|And.intro @O5<|And.intro @N1<|And.intro @O6<|And.intro @N2<|And.intro @N3<|And.intro @N4<|And.intro @O7<|And.intro @O8<|And.intro @O9<|And.intro @Qe<|And.intro @M1<|And.intro @N5<|And.intro @Sy<|And.intro @Qh<|And.intro @Qi<|And.intro @Pa<|And.intro @Pb<|And.intro @Pc<|And.intro @Pf<|And.intro @RE<|And.intro @Qj<|And.intro @RF<|And.intro @Sz<|And.intro @Qk<|And.intro @Pg<|And.intro @Ph<|And.intro @RG<|And.intro @Pj<|And.intro @Pk<|And.intro @RH<|And.intro @Ql<|And.intro @RI<|And.intro @SA<|And.intro @SB<|And.intro @RJ<|And.intro @Pl<|And.intro @RK<|And.intro @Qm<|And.intro @Qn<|And.intro @Pm<|And.intro @RL<|And.intro @RM<|And.intro @Pn<|And.intro @RN<|And.intro @Po<|And.intro @RO<|And.intro @Qp<|And.intro @M3<|And.intro @M4<|And.intro @Oe<|And.intro @Og<|And.intro @M5<|And.intro @Ps<|And.intro @Qq<|And.intro @Qr<|And.intro @Pp<|And.intro @N7<|And.intro @Pq<|And.intro @Pr<|And.intro @N8<|And.intro @N9<|And.intro @Oa<|And.intro @Pt<|And.intro @Ob<|And.intro @Qo<|And.intro @SC<|And.intro @Qs<|And.intro @Qt<|And.intro @Pu<|And.intro @RP<|And.intro @Qu<|And.intro @RQ<|And.intro @SD<|And.intro @Qv<|And.intro @Pv<|And.intro @Pw<|And.intro @RS<|And.intro @Px<|And.intro @Py<|And.intro @RT<|And.intro @Qw<|And.intro @RU<|And.intro @SE<|And.intro @SF<|And.intro @RW<|And.intro @Pz<|And.intro @RX<|And.intro @Qx<|And.intro @Qy<|And.intro @Qz<|And.intro @Oc<|And.intro @QA<|And.intro @Od<|And.intro @QB<|And.intro @fP<|And.intro @QC<|And.intro @QD<|And.intro @QE<|And.intro @PA<|And.intro @E8<|And.intro @Oh<|And.intro @ve.eq_def<|And.intro @ov.eq_def<|And.intro @lD.eq_def<|And.intro @bound.eq_def<|And.intro @s4.eq_def<|And.intro @arith.eq_def<|And.intro @s5.eq_def<|And.intro @mF.eq_def<|And.intro @lE.eq_def<|And.intro @u3.eq_def<|And.intro @A0<|And.intro @Az<|And.intro @AA<|And.intro @AB<|And.intro @Al<|And.intro @Am<|And.intro @z8<|And.intro @z9<|And.intro @zT<|And.intro @A1<|And.intro @AE<|And.intro @A2<|And.intro @A3<|And.intro @QF<|And.intro @QG<|And.intro @QH<|And.intro @QI<|And.intro @RY<|And.intro @RZ<|And.intro @QJ<|And.intro @QK<|And.intro @QL<|And.intro @QM<|And.intro @PB<|And.intro @PC<|And.intro @PD<|And.intro @PE<|And.intro @QN<|And.intro @QO<|And.intro @QP<|And.intro @QQ<|And.intro @QR<|And.intro @QS<|And.intro @QT<|And.intro @QU<|And.intro @QV<|And.intro @QW<|And.intro @QX<|And.intro @QY<|And.intro @PF<| @Oi
theorem Uu:type_of% (And.intro @ag.pair.eq_def<|And.intro @jM.eq_def<|And.intro @dL.sz.eq_def<|And.intro @b1.kill.eq_def<|And.intro @BC.kill.eq_def<|And.intro @ag.cells.eq_def<|And.intro @lu.eq_def<|And.intro @nj.eq_def<|And.intro @s6.eq_def<|And.intro @sU.eq_def<|And.intro @ni.eq_def<|And.intro @lj.eq_def<|And.intro @BC.count.eq_def<|And.intro @BC.part.eq_def<|And.intro @ag.xB.eq_def<|And.intro @q7.eq_def<|And.intro @BC.pure.eq_def<|And.intro @BC.tidy.eq_def<|And.intro @BC.c7.eq_def<|And.intro @reach.eq_def<|And.intro @pH.eq_def<|And.intro @bo.makes.eq_def<|And.intro @sI.eq_def<|And.intro @bo.ops.eq_def<|And.intro @asSlice.eq_def<|And.intro @ch.eq_def<|And.intro @vf.eq_def<|And.intro @cX.eq_def<|And.intro @hL.eq_def<|And.intro @D.emp.eq_def<|And.intro @D.xC.eq_def<|And.intro @sD.eq_def<| @over.eq_def):=
 And.intro @ag.pair.eq_def<|And.intro @jM.eq_def<|And.intro @dL.sz.eq_def<|And.intro @b1.kill.eq_def<|And.intro @BC.kill.eq_def<|And.intro @ag.cells.eq_def<|And.intro @lu.eq_def<|And.intro @nj.eq_def<|And.intro @s6.eq_def<|And.intro @sU.eq_def<|And.intro @ni.eq_def<|And.intro @lj.eq_def<|And.intro @BC.count.eq_def<|And.intro @BC.part.eq_def<|And.intro @ag.xB.eq_def<|And.intro @q7.eq_def<|And.intro @BC.pure.eq_def<|And.intro @BC.tidy.eq_def<|And.intro @BC.c7.eq_def<|And.intro @reach.eq_def<|And.intro @pH.eq_def<|And.intro @bo.makes.eq_def<|And.intro @sI.eq_def<|And.intro @bo.ops.eq_def<|And.intro @asSlice.eq_def<|And.intro @ch.eq_def<|And.intro @vf.eq_def<|And.intro @cX.eq_def<|And.intro @hL.eq_def<|And.intro @D.emp.eq_def<|And.intro @D.xC.eq_def<|And.intro @sD.eq_def<| @over.eq_def
theorem Uv:type_of% (And.intro @ag.has.eq_1<|And.intro @ag.has.eq_2<|And.intro @ag.has.eq_3<|And.intro @ag.has.eq_4<|And.intro @ag.has.eq_5<|And.intro @ag.has.eq_6<|And.intro @ag.cC.eq_1<|And.intro @ag.cC.eq_2<|And.intro @lp.eq_1<|And.intro @lp.eq_2<|And.intro @mr.eq_1<|And.intro @mr.eq_2<|And.intro @jL.eq_1<|And.intro @jL.eq_2<|And.intro @ic.eq_1<|And.intro @ic.eq_2<|And.intro @ic.eq_3<|And.intro @ic.eq_4<|And.intro @ic.eq_5<|And.intro @ic.eq_6<|And.intro @nk.eq_1<|And.intro @nk.eq_2<|And.intro @ag.pure.eq_1<|And.intro @ag.pure.eq_2<|And.intro @ag.pure.eq_3<|And.intro @ag.pure.eq_4<|And.intro @ag.fO.eq_1<|And.intro @ag.fO.eq_2<|And.intro @ag.tidy.eq_1<|And.intro @ag.tidy.eq_2<|And.intro @ag.tidy.eq_3<|And.intro @ag.tidy.eq_4<|And.intro @ag.tidy.eq_5<|And.intro @ag.fT.eq_1<|And.intro @ag.fT.eq_2<|And.intro @contents.eq_1<|And.intro @contents.eq_2<|And.intro @gg.eq_1<|And.intro @gg.eq_2<|And.intro @distinct.eq_1<|And.intro @distinct.eq_2<|And.intro @ag.ids.eq_1<|And.intro @ag.ids.eq_2<|And.intro @ag.ids.eq_3<|And.intro @ag.ids.eq_4<|And.intro @ag.ids.eq_5<|And.intro @ag.ids.eq_6<|And.intro @ag.gE.eq_1<|And.intro @ag.gE.eq_2<|And.intro @ag.c7.eq_1<|And.intro @ag.c7.eq_2<|And.intro @ag.c7.eq_3<|And.intro @ag.c7.eq_4<|And.intro @ag.c7.eq_5<|And.intro @ag.c7.eq_6<|And.intro @ag.e5.eq_1<|And.intro @ag.e5.eq_2<|And.intro @placeOf.eq_1<|And.intro @placeOf.eq_2<|And.intro @je.eq_1<|And.intro @je.eq_2<|And.intro @D.flat.eq_1<|And.intro @D.flat.eq_2<|And.intro @D.flat.eq_3<|And.intro @D.flat.eq_4<|And.intro @D.flat.eq_5<|And.intro @D.flat.eq_6<|And.intro @D.pG.eq_1<|And.intro @D.pG.eq_2<|And.intro @ih.eq_1<|And.intro @ih.eq_2<|And.intro @gA.eq_1<|And.intro @gA.eq_2<|And.intro @gA.eq_3<|And.intro @gA.eq_4<|And.intro @gA.eq_5<|And.intro @gA.eq_6<|And.intro @oB.eq_1<|And.intro @oB.eq_2<|And.intro @lq.eq_1<|And.intro @lq.eq_2<|And.intro @lq.eq_3<|And.intro @lr.eq_1<|And.intro @lr.eq_2<|And.intro @lr.eq_3<|And.intro @ia.eq_1<|And.intro @ia.eq_2<|And.intro @ia.eq_3<|And.intro @toD.eq_1<|And.intro @toD.eq_2<|And.intro @toD.eq_3<|And.intro @toD.eq_4<|And.intro @toD.eq_5<|And.intro @toD.eq_6<|And.intro @toDs.eq_1<| @toDs.eq_2):=
 And.intro @ag.has.eq_1<|And.intro @ag.has.eq_2<|And.intro @ag.has.eq_3<|And.intro @ag.has.eq_4<|And.intro @ag.has.eq_5<|And.intro @ag.has.eq_6<|And.intro @ag.cC.eq_1<|And.intro @ag.cC.eq_2<|And.intro @lp.eq_1<|And.intro @lp.eq_2<|And.intro @mr.eq_1<|And.intro @mr.eq_2<|And.intro @jL.eq_1<|And.intro @jL.eq_2<|And.intro @ic.eq_1<|And.intro @ic.eq_2<|And.intro @ic.eq_3<|And.intro @ic.eq_4<|And.intro @ic.eq_5<|And.intro @ic.eq_6<|And.intro @nk.eq_1<|And.intro @nk.eq_2<|And.intro @ag.pure.eq_1<|And.intro @ag.pure.eq_2<|And.intro @ag.pure.eq_3<|And.intro @ag.pure.eq_4<|And.intro @ag.fO.eq_1<|And.intro @ag.fO.eq_2<|And.intro @ag.tidy.eq_1<|And.intro @ag.tidy.eq_2<|And.intro @ag.tidy.eq_3<|And.intro @ag.tidy.eq_4<|And.intro @ag.tidy.eq_5<|And.intro @ag.fT.eq_1<|And.intro @ag.fT.eq_2<|And.intro @contents.eq_1<|And.intro @contents.eq_2<|And.intro @gg.eq_1<|And.intro @gg.eq_2<|And.intro @distinct.eq_1<|And.intro @distinct.eq_2<|And.intro @ag.ids.eq_1<|And.intro @ag.ids.eq_2<|And.intro @ag.ids.eq_3<|And.intro @ag.ids.eq_4<|And.intro @ag.ids.eq_5<|And.intro @ag.ids.eq_6<|And.intro @ag.gE.eq_1<|And.intro @ag.gE.eq_2<|And.intro @ag.c7.eq_1<|And.intro @ag.c7.eq_2<|And.intro @ag.c7.eq_3<|And.intro @ag.c7.eq_4<|And.intro @ag.c7.eq_5<|And.intro @ag.c7.eq_6<|And.intro @ag.e5.eq_1<|And.intro @ag.e5.eq_2<|And.intro @placeOf.eq_1<|And.intro @placeOf.eq_2<|And.intro @je.eq_1<|And.intro @je.eq_2<|And.intro @D.flat.eq_1<|And.intro @D.flat.eq_2<|And.intro @D.flat.eq_3<|And.intro @D.flat.eq_4<|And.intro @D.flat.eq_5<|And.intro @D.flat.eq_6<|And.intro @D.pG.eq_1<|And.intro @D.pG.eq_2<|And.intro @ih.eq_1<|And.intro @ih.eq_2<|And.intro @gA.eq_1<|And.intro @gA.eq_2<|And.intro @gA.eq_3<|And.intro @gA.eq_4<|And.intro @gA.eq_5<|And.intro @gA.eq_6<|And.intro @oB.eq_1<|And.intro @oB.eq_2<|And.intro @lq.eq_1<|And.intro @lq.eq_2<|And.intro @lq.eq_3<|And.intro @lr.eq_1<|And.intro @lr.eq_2<|And.intro @lr.eq_3<|And.intro @ia.eq_1<|And.intro @ia.eq_2<|And.intro @ia.eq_3<|And.intro @toD.eq_1<|And.intro @toD.eq_2<|And.intro @toD.eq_3<|And.intro @toD.eq_4<|And.intro @toD.eq_5<|And.intro @toD.eq_6<|And.intro @toDs.eq_1<| @toDs.eq_2
theorem Uw:type_of% (And.intro @NG<|And.intro @MU<|And.intro @NH<|And.intro @MV<|And.intro @MW<|And.intro @MX<|And.intro @NI<|And.intro @O2<|And.intro @Mw<|And.intro @MY<|And.intro @NJ<|And.intro @NK<|And.intro @MZ<|And.intro @NL<|And.intro @NM<|And.intro @NN<|And.intro @NO<|And.intro @NP<|And.intro @NQ<|And.intro @P4<|And.intro @NR<|And.intro @NS<|And.intro @NT<|And.intro @NU<|And.intro @NV<|And.intro @NW<|And.intro @NX<|And.intro @List.getElem?_cons_zero.{0} <|And.intro @List.getElem?_cons_succ.{0} <|And.intro @List.getElem?_nil.{0} <|And.intro @true_or<|And.intro @or_true<|And.intro @false_or<|And.intro @or_false<|And.intro @true_and<|And.intro @and_true<|And.intro @false_and<|And.intro @and_false<|And.intro @Nat.sub_self<|And.intro @Option.map_some.{0,0} <|And.intro @Option.map_none.{0,0} <|And.intro @Nat.le_refl<|And.intro @List.length_cons.{0} <|And.intro @List.length_nil.{0} <|And.intro @List.all_cons.{0} <|And.intro @List.all_nil.{0} <|And.intro @Bool.and_true<|And.intro @Bool.true_and<|And.intro @Bool.and_false<|And.intro @Bool.false_and<|And.intro @Bool.or_true<|And.intro @Bool.or_false<|And.intro @Bool.true_or<|And.intro @Bool.false_or<|And.intro @Bool.not_true<|And.intro @Bool.not_false<|And.intro @Bool.false_eq_true<|And.intro @List.take_zero.{0} <|And.intro @List.drop_zero.{0} <|And.intro @List.take_succ_cons.{0} <|And.intro @List.drop_succ_cons.{0} <|And.intro @List.drop_nil.{0} <|And.intro @List.take_nil.{0} <|And.intro @List.nil_append.{0} <|And.intro @List.append_nil.{0} <|And.intro @List.cons_append.{0} <|And.intro @List.map_cons.{0,0} <|And.intro @List.map_nil.{0,0} <|And.intro @Nat.zero_add<|And.intro @Nat.add_zero<|And.intro @List.filter_nil.{0} <|And.intro @List.filter_cons.{0} <|And.intro @Nat.min_def<|And.intro @eq_self.{1} <|And.intro @forall_const.{1} <|And.intro @false_implies<|And.intro @implies_true.{1} <|And.intro @not_false_eq_true<|And.intro @ne_eq.{1} <|And.intro @not_true_eq_false<|And.intro @bne_self_eq_false.{0} <|And.intro @beq_self_eq_true.{0} <|And.intro @List.length_replicate.{0} <|And.intro @List.set_cons_zero.{0} <|And.intro @List.set_cons_succ.{0} <|And.intro @true_implies<|And.intro @decide_eq_true_eq<|And.intro @decide_eq_false_iff_not<|And.intro @Int.toNat_natCast<|And.intro @ag.d.injEq<|And.intro @D.int.injEq<|And.intro @D.bool.injEq<|And.intro @D.flt.injEq<|And.intro @D.ints.injEq<|And.intro @List.head?_cons.{0} <|And.intro @List.head?_nil.{0} <| @List.append_assoc.{0}):=
 And.intro @NG<|And.intro @MU<|And.intro @NH<|And.intro @MV<|And.intro @MW<|And.intro @MX<|And.intro @NI<|And.intro @O2<|And.intro @Mw<|And.intro @MY<|And.intro @NJ<|And.intro @NK<|And.intro @MZ<|And.intro @NL<|And.intro @NM<|And.intro @NN<|And.intro @NO<|And.intro @NP<|And.intro @NQ<|And.intro @P4<|And.intro @NR<|And.intro @NS<|And.intro @NT<|And.intro @NU<|And.intro @NV<|And.intro @NW<|And.intro @NX<|And.intro @List.getElem?_cons_zero.{0} <|And.intro @List.getElem?_cons_succ.{0} <|And.intro @List.getElem?_nil.{0} <|And.intro @true_or<|And.intro @or_true<|And.intro @false_or<|And.intro @or_false<|And.intro @true_and<|And.intro @and_true<|And.intro @false_and<|And.intro @and_false<|And.intro @Nat.sub_self<|And.intro @Option.map_some.{0,0} <|And.intro @Option.map_none.{0,0} <|And.intro @Nat.le_refl<|And.intro @List.length_cons.{0} <|And.intro @List.length_nil.{0} <|And.intro @List.all_cons.{0} <|And.intro @List.all_nil.{0} <|And.intro @Bool.and_true<|And.intro @Bool.true_and<|And.intro @Bool.and_false<|And.intro @Bool.false_and<|And.intro @Bool.or_true<|And.intro @Bool.or_false<|And.intro @Bool.true_or<|And.intro @Bool.false_or<|And.intro @Bool.not_true<|And.intro @Bool.not_false<|And.intro @Bool.false_eq_true<|And.intro @List.take_zero.{0} <|And.intro @List.drop_zero.{0} <|And.intro @List.take_succ_cons.{0} <|And.intro @List.drop_succ_cons.{0} <|And.intro @List.drop_nil.{0} <|And.intro @List.take_nil.{0} <|And.intro @List.nil_append.{0} <|And.intro @List.append_nil.{0} <|And.intro @List.cons_append.{0} <|And.intro @List.map_cons.{0,0} <|And.intro @List.map_nil.{0,0} <|And.intro @Nat.zero_add<|And.intro @Nat.add_zero<|And.intro @List.filter_nil.{0} <|And.intro @List.filter_cons.{0} <|And.intro @Nat.min_def<|And.intro @eq_self.{1} <|And.intro @forall_const.{1} <|And.intro @false_implies<|And.intro @implies_true.{1} <|And.intro @not_false_eq_true<|And.intro @ne_eq.{1} <|And.intro @not_true_eq_false<|And.intro @bne_self_eq_false.{0} <|And.intro @beq_self_eq_true.{0} <|And.intro @List.length_replicate.{0} <|And.intro @List.set_cons_zero.{0} <|And.intro @List.set_cons_succ.{0} <|And.intro @true_implies<|And.intro @decide_eq_true_eq<|And.intro @decide_eq_false_iff_not<|And.intro @Int.toNat_natCast<|And.intro @ag.d.injEq<|And.intro @D.int.injEq<|And.intro @D.bool.injEq<|And.intro @D.flt.injEq<|And.intro @D.ints.injEq<|And.intro @List.head?_cons.{0} <|And.intro @List.head?_nil.{0} <| @List.append_assoc.{0}
end RV
namespace RV
def ai (n:Nat):List Int:=if h:n=0 then []else ((n % 16777216:Nat):Int)::ai (n / 16777216)
termination_by n
decreasing_by exact Nat.div_lt_self (Nat.pos_of_ne_zero h) (by decide)
def val:List Int→Nat
 |[]=>0
 |x::xs=>x.toNat+16777216*val xs
def bQ (xs:List Int):Prop:=∀x∈xs,0≤x∧x<16777216
theorem gf:ai 0=[]:=by unfold ai;simp
theorem pq {n:Nat} (h:n≠0):ai n=((n % 16777216:Nat):Int)::ai (n / 16777216):=by
 conv=>lhs;unfold ai
 rw[dif_neg h]
theorem bO (n:Nat):val (ai n)=n:=by
 induction n using Nat.strongRecOn with
 |_ n cm=>
  by_cases h:n=0
  ·subst h;rw[gf];rfl
  ·rw[pq h,val,cm (n / 16777216) (Nat.div_lt_self (Nat.pos_of_ne_zero h) (by decide))]
   omega
theorem cN (n:Nat):bQ (ai n):=by
 induction n using Nat.strongRecOn with
 |_ n cm=>
  by_cases h:n=0
  ·subst h;rw[gf];intro x ah;cases ah
  ·rw[pq h]
   intro x ah
   rcases List.mem_cons.1 ah with rfl|ah
   ·omega
   ·exact cm (n / 16777216) (Nat.div_lt_self (Nat.pos_of_ne_zero h) (by decide)) x ah
theorem M6 {n:Nat} (h:ai n=[]):n=0:=by
 have:=bO n
 rw[h]at this
 exact this.symm
theorem bQ.tail {x:Int} {xs:List Int} (h:bQ (x::xs)):bQ xs:=fun y hy=>h y (List.mem_cons_of_mem _ hy)
theorem bQ.head {x:Int} {xs:List Int} (h:bQ (x::xs)):0≤x∧x<16777216:=h x (by simp)
theorem bQ.append {xs ax:List Int} (h:bQ xs) (k:bQ ax):bQ (xs++ax):=fun x ah=>(List.mem_append.1 ah).elim (h x) (k x)
theorem bQ.take {xs:List Int} (h:bQ xs) (n:Nat):bQ (xs.take n):=fun x ah=>h x (List.mem_of_mem_take ah)
theorem bQ.drop {xs:List Int} (h:bQ xs) (n:Nat):bQ (xs.drop n):=fun x ah=>h x (List.mem_of_mem_drop ah)
theorem bQ.get {xs:List Int} (h:bQ xs) {i:Nat} (hi:i<xs.length):0≤xs.getD i 0∧xs.getD i 0<16777216:=by
 rw[List.getD_eq_getElem?_getD,List.getElem?_eq_getElem hi]
 exact h _ (List.getElem_mem hi)
theorem zU:∀(xs ax:List Int),val (xs++ax)=val xs+16777216^xs.length*val ax
 |[],ax=>by simp[val]
 |x::xs,ax=>by
  rw[List.cons_append,val,val,zU xs ax,List.length_cons,Nat.pow_succ]
  rw[Nat.mul_add,Nat.add_assoc,Nat.mul_assoc,Nat.mul_left_comm]
theorem ib:∀{xs:List Int},bQ xs→val xs<16777216^xs.length
 |[],_=>by simp[val]
 |x::xs,h=>by
  have:=ib h.tail
  have:=h.head
  rw[val,List.length_cons,Nat.pow_succ]
  omega
theorem Ex:∀{xs:List Int},bQ xs→(∀x,xs.getLast? =some x→x≠0)→ai (val xs)=xs
 |[],_,_=>gf
 |[x],h,aB=>by
  have:=h.head
  have:=aB x rfl
  rw[val,val]
  rw[pq (by omega)]
  have h1:(x.toNat+16777216*0) / 16777216=0:=by omega
  have h2:(((x.toNat+16777216*0) % 16777216:Nat):Int)=x:=by omega
  rw[h1,h2,gf]
 |x::y::ax,h,aB=>by
  have cm:=Ex h.tail (fun z bg=>aB z (by simpa [List.getLast?_cons_cons]using bg))
  have ah:=h.head
  have dX:val (y::ax)≠0:=fun e=>by rw[e,gf]at cm;cases cm
  rw[val,pq (by omega)]
  have h1:(x.toNat+16777216*val (y::ax)) / 16777216=val (y::ax):=by omega
  have h2:(((x.toNat+16777216*val (y::ax)) % 16777216:Nat):Int)=x:=by omega
  rw[h1,h2,cm]
theorem aaK {n:Nat} :∀x,(ai n).getLast? =some x→x≠0:=by
 induction n using Nat.strongRecOn with
 |_ n cm=>
  intro x ah
  by_cases h:n=0
  ·subst h;rw[gf]at ah;cases ah
  ·rw[pq h]at ah
   by_cases h2:n / 16777216=0
   ·rw[h2,gf]at ah
    simp only[List.getLast?_singleton,Option.some.injEq]at ah
    omega
   ·have ao:ai (n / 16777216)≠[]:=fun e=>h2 (M6 e)
    cases aB:ai (n / 16777216)with
    |nil=>exact absurd aB ao
    |cons y ax=>
     rw[aB,List.getLast?_cons_cons]at ah
     exact cm (n / 16777216) (Nat.div_lt_self (Nat.pos_of_ne_zero h) (by decide)) x (by rw[aB];exact ah)
theorem uH:∀(k:Nat),val (List.replicate k 0)=0
 |0=>rfl
 |k+1=>by rw[List.replicate_succ,val,uH k];rfl
theorem Zx (xs:List Int):val (xs++[0])=val xs:=by rw[zU];simp[val]
theorem zV {xs:List Int} (h:bQ xs) {n:Nat} (aA:val (xs.take n)=val xs) (aB:n=0∨(n≤xs.length∧xs.getD (n - 1) 0≠0)):xs.take n=ai (val xs):=by
 rw[←aA]
 refine(Ex (h.take n) fun x ah=> ?_).symm
 rcases aB with rfl|⟨aH,dX⟩
 ·simp at ah
 ·by_cases h0:n=0
  ·subst h0;simp at ah
  ·rw[List.getLast?_take,if_neg h0]at ah
   have bp:n - 1<xs.length:=by omega
   rw[List.getD_eq_getElem?_getD,List.getElem?_eq_getElem bp]at dX
   rw[List.getElem?_eq_getElem bp]at ah
   simp only[Option.some_or,Option.some.injEq,Option.getD_some]at ah dX
   subst ah
   simpa using dX
theorem LH {xs:List Int} {n:Nat} (aH:n<xs.length) (h0:xs.getD n 0=0):val (xs.take (n+1))=val (xs.take n):=by
 rw[List.take_add_one,List.getElem?_eq_getElem aH]
 rw[List.getD_eq_getElem?_getD,List.getElem?_eq_getElem aH]at h0
 simp only[Option.getD_some]at h0
 rw[h0]
 exact Zx _
theorem qQ (xs:List Int) (x:Int):val (xs++[x])=val xs+16777216^xs.length*x.toNat:=by
 rw[zU];simp[val]
theorem lk (xs:List Int) (k:Nat):val (xs.drop k)=(xs.getD k 0).toNat+16777216*val (xs.drop (k+1)):=by
 rcases Nat.lt_or_ge k xs.length with h|h
 ·rw[List.drop_eq_getElem_cons h,val,List.getD_eq_getElem?_getD,List.getElem?_eq_getElem h];rfl
 ·rw[List.drop_of_length_le h,List.drop_of_length_le (by omega),List.getD_eq_getElem?_getD,List.getElem?_eq_none h];rfl
theorem bQ.getD {xs:List Int} (h:bQ xs) (i:Nat):0≤xs.getD i 0∧xs.getD i 0<16777216:=by
 rcases Nat.lt_or_ge i xs.length with hi|hi
 ·exact h.get hi
 ·rw[List.getD_eq_getElem?_getD,List.getElem?_eq_none hi];simp
theorem bQ.snoc {xs:List Int} {x:Int} (h:bQ xs) (h0:0≤x) (h1:x<16777216):bQ (xs++[x]):=h.append fun y hy=>by
 rcases List.mem_singleton.1 hy with rfl;exact⟨h0,h1⟩
theorem Mx {out:List Int} {T r r':Nat} {s:Int} (h0:0≤s) (aA:val out+16777216^out.length*r=T) (aq:r=s.toNat+16777216*r'):
 val (out++[s.tmod 16777216])+16777216^(out.length+1)*((s.tdiv 16777216).toNat+r')=T:=by
 rw[qQ,Nat.pow_succ,←aA,aq,Nat.mul_assoc,Nat.add_assoc,←Nat.mul_add]
 congr 2
 rw[Int.tmod_eq_emod_of_nonneg h0,Int.tdiv_eq_ediv_of_nonneg h0]
 omega
theorem qG {n:Nat} (h:n≠0):0<(ai n).length:=by rw[pq h];simp
theorem Oj {n:Nat} (h:n≠0):16777216^((ai n).length - 1)≤n:=by
 induction n using Nat.strongRecOn with
 |_ n cm=>
  rw[pq h,List.length_cons,Nat.add_sub_cancel]
  by_cases h2:n / 16777216=0
  ·rw[h2,gf];simp;omega
  ·have:=cm (n / 16777216) (Nat.div_lt_self (Nat.pos_of_ne_zero h) (by decide)) h2
   have aS:=qG h2
   rw[show (ai (n / 16777216)).length=(ai (n / 16777216)).length - 1+1 by omega,Nat.pow_succ]
   omega
theorem ER (n:Nat):n<16777216^(ai n).length:=by
 have:=ib (cN n)
 rwa [bO]at this
theorem wS {a b:Nat} (h:(ai a).length<(ai b).length):a<b:=by
 have ar:b≠0:=fun e=>by subst e;rw[gf]at h;simp at h
 have h1:=ER a
 have h2:=Oj ar
 have al:16777216^(ai a).length≤16777216^((ai b).length - 1):=Nat.pow_le_pow_right (by decide) (by omega)
 omega
theorem wT (xs:List Int) (i:Nat) (hi:i≤xs.length):val xs=val (xs.take i)+16777216^i*val (xs.drop i):=by
 have:=zU (xs.take i) (xs.drop i)
 rw[List.take_append_drop,List.length_take,Nat.min_eq_left hi]at this
 exact this
theorem Aa {xs ax:List Int} (ah:bQ xs) (hy:bQ ax) {i:Nat} (h1:i<xs.length) (h2:i<ax.length) (aC:xs.drop (i+1)=ax.drop (i+1)) (bp:xs.getD i 0<ax.getD i 0):val xs<val ax:=by
 rw[wT xs i (by omega),wT ax i (by omega),lk xs i,lk ax i,aC]
 have a2:=ib (ah.take i)
 rw[List.length_take,Nat.min_eq_left (by omega)]at a2
 have ez:=ah.getD i
 have iu:=hy.getD i
 have hle:(xs.getD i 0).toNat+16777216*val (ax.drop (i+1))+1≤(ax.getD i 0).toNat+16777216*val (ax.drop (i+1)):=by omega
 have:=Nat.mul_le_mul_left (16777216^i) hle
 rw[Nat.mul_add,Nat.mul_one]at this
 omega
theorem qN {n k:Nat} (h:n<16777216^k):(ai n).length≤k:=by
 rcases Nat.lt_or_ge k (ai n).length with aB|aB
 ·exfalso
  have h0:n≠0:=fun e=>by subst e;rw[gf]at aB;simp at aB
  have h1:=Oj h0
  have h2:16777216^k≤16777216^((ai n).length - 1):=Nat.pow_le_pow_right (by decide) (by omega)
  omega
 ·exact aB
theorem L7 {out xs ax:List Int} {T c c':Nat} {d:Int} (ah:bQ xs) (hy:bQ ax) (Ce:0≤d) (aC:xs.getD out.length 0+16777216*(c':Int)=d+ax.getD out.length 0+c)
 (aA:val out+16777216^out.length*val (xs.drop out.length)=T+16777216^out.length*(c+val (ax.drop out.length))):
 val (out++[d])+16777216^(out.length+1)*val (xs.drop (out.length+1))=T+16777216^(out.length+1)*(c'+val (ax.drop (out.length+1))):=by
 have ez:=ah.getD out.length
 have iu:=hy.getD out.length
 rw[lk xs,lk ax]at aA
 rw[qQ,Nat.pow_succ]
 generalize val (xs.drop (out.length+1))=X at*
 generalize val (ax.drop (out.length+1))=Y at*
 generalize 16777216^out.length=p at*
 generalize val out=o at*
 have aH:(xs.getD out.length 0).toNat+16777216*c'=d.toNat+(ax.getD out.length 0).toNat+c:=by omega
 generalize (xs.getD out.length 0).toNat=x at*
 generalize (ax.getD out.length 0).toNat=y at*
 generalize d.toNat=e at*
 have h2:p*(x+16777216*c')=p*(e+y+c):=by rw[aH]
 simp only[Nat.mul_add]at aA h2⊢
 rw[Nat.mul_assoc p,Nat.mul_assoc p,Nat.mul_assoc p]
 omega
theorem AF:∀{xs:List Int} {j:Nat},j<xs.length→∀x:Int,val (xs.set j x)+16777216^j*(xs.getD j 0).toNat=val xs+16777216^j*x.toNat
 |[],_,h,_=>by simp at h
 |y::ax,0,_,x=>by simp[val];omega
 |y::ax,j+1,h,x=>by
  have cm:=AF (xs:=ax) (j:=j) (by simpa using h) x
  rw[List.set_cons_succ,val,val,List.getD_cons_succ,Nat.pow_succ]
  generalize val (ax.set j x)=A at*
  generalize val ax=C at*
  generalize 16777216^j=p at*
  rw[Nat.mul_right_comm p 16777216 (ax.getD j 0).toNat,Nat.mul_right_comm p 16777216 x.toNat]
  omega
theorem bQ.set {xs:List Int} (h:bQ xs) (j:Nat) {x:Int} (h0:0≤x) (h1:x<16777216):bQ (xs.set j x):=fun y hy=>by
 rcases List.mem_or_eq_of_mem_set hy with hy|rfl
 ·exact h y hy
 ·exact⟨h0,h1⟩
theorem Ok {out:List Int} {j c x y:Nat} {s:Int} (aB:bQ out) (az:j<out.length) (ay:s=out.getD j 0+(x*y:Nat)+c):
 val (out.set j (s.tmod 16777216))+16777216^(j+1)*(s.tdiv 16777216).toNat=val out+16777216^j*(c+x*y):=by
 have bh:=aB.getD j
 have h0:0≤s:=by omega
 have aA:=AF az (s.tmod 16777216)
 have agV:s.toNat=(out.getD j 0).toNat+x*y+c:=by omega
 have agW:(s.tmod 16777216).toNat+16777216*(s.tdiv 16777216).toNat=s.toNat:=by
  rw[Int.tmod_eq_emod_of_nonneg h0,Int.tdiv_eq_ediv_of_nonneg h0];omega
 rw[Nat.pow_succ]
 generalize val (out.set j (s.tmod 16777216))=A at*
 generalize (out.getD j 0).toNat=o at*
 generalize (s.tmod 16777216).toNat=m at*
 generalize (s.tdiv 16777216).toNat=d at*
 generalize x*y=z at*
 generalize val out=C at*
 generalize 16777216^j=p at*
 have h2:p*(m+16777216*d)=p*(o+z+c):=by rw[agW,agV]
 simp only[Nat.mul_add]at h2⊢
 rw[Nat.mul_assoc]
 omega
theorem M7 {x y c o:Nat} (ah:x<16777216) (hy:y<16777216) (ao:c<16777216) (bh:o<16777216):o+x*y+c<16777216*16777216:=by
 have:x*y≤16777215*16777215:=Nat.mul_le_mul (by omega) (by omega)
 omega
theorem ux {xs:List Int} {k:Nat} (h:k<xs.length):val (xs.take (k+1))=val (xs.take k)+16777216^k*(xs.getD k 0).toNat:=by
 rw[List.take_add_one,List.getElem?_eq_getElem h,List.getD_eq_getElem?_getD,List.getElem?_eq_getElem h]
 show val (xs.take k++[xs[k]])=_
 rw[qQ,List.length_take,Nat.min_eq_left (Nat.le_of_lt h)]
 rfl
theorem og {xs:List Int} {i j:Nat} (h:i≠j) (x:Int):(xs.set i x).getD j 0=xs.getD j 0:=by
 rw[List.getD_eq_getElem?_getD,List.getD_eq_getElem?_getD,List.getElem?_set_ne h]
end RV
namespace RV
open Go Go.RowKit
def gb (r:Option Nat):Fence:= { Fence.wide with round:=r }
def eT (a:Act) (ds:List Deferred):Act:= { a with defers:=a.defers++ds }
theorem pr (a:Act):eT a []=a:=by simp[eT]
theorem Ef (a:Act) (ds:List Deferred):(eT a ds).eval=a.eval:=by funext x;cases x<;>rfl
theorem sC (a:Act) (ds:List Deferred) (d:Option Tmp) (v:Value):(eT a ds).put d v=eT (a.put d v) ds:=by cases d<;>rfl
def iB (T:Nat→Bool) (av:Nat→Value) (a:Act):Prop:=∀t,T t=true→a.tmps.getD t undef=av t
theorem iB.put {T:Nat→Bool} {av:Nat→Value} {a:Act} (h:iB T av a) {d:Option Nat} (aC:∀x,d=some x→T x=false) (v:Value):iB T av (a.put d v):=by
 cases d with
 |none=>exact h
 |some d=>
  intro t ae
  have dX:d≠t:=fun e=>by subst e;rw[aC d rfl]at ae;cases ae
  have:=h t ae
  simp only[Act.put]
  rw[Array.getD_eq_getD_getElem?,Array.getElem?_setIfInBounds_ne dX,←Array.getD_eq_getD_getElem?]
  exact this
theorem iB.congr {T:Nat→Bool} {av:Nat→Value} {a b:Act} (h:iB T av a) (e:b.tmps=a.tmps):iB T av b:=fun t ae=>by rw[e];exact h t ae
section
variable {r:Option Nat} {n:Nat} {P:Program} {ops:Array Oper} {Q Q':Exit→Act→World→Prop} {ds:List Deferred} {T:Nat→Bool} {av:Nat→Value}
theorem Ol {f:FuncId} {args:Array Value} {w:World} {R:Ending→World→Prop} (h:Calls P f args w R):CallsIn (gb r) n P f args w R:=
 (callsIn_wide (n:=n)).2 h
theorem acL {row:String} {args:Array Value} {w:World} {R:Value→World→Prop} (h:Rows P row args w R):RowsIn (gb r) n P row args w R:=fun c cs _=>
 let ⟨v,w',h1,h2⟩:=h c cs
 ⟨v,w',h1,stepsIn_wide.2 h2⟩
theorem AG {o:Oper} (hv:∀c,o.op≠ .defer c) {a:Act} {w:World} {next next':Act→World→Prop} (fH:¬LetsOut Q) (h:o.wp P a w next Q)
 (aH:∀b2 w' v ms,b2= { a with defers:=ms }.put o.dst v→next b2 w'→next' (eT b2 ds) w') (aS:∀qv w',Q (.panic qv) a w'→Q' (.panic qv) (eT a ds) w'):
 o.wpIn (gb r) n P (eT a ds) w next' Q':=by
 refine⟨fun _ _=>trivial,?_⟩
 rw[Oper.semAt_eq _ _ _ hv,Ef]
 unfold Oper.wp at h
 generalize (execOp a.eval o).run P w=res at h
 cases res with
 |ok x w'=>
  cases x<;>simp only[Oper.upon]at h<;>simp only[Oper.uponIn]
  case value v=>rw[sC];exact aH _ _ v a.defers rfl h
  case skip=>rw[sC];exact aH _ _ undef a.defers rfl h
  case defer d=>
   have:=aH _ _ undef (d::a.defers) rfl h
   rw[←sC]at this
   exact this
  case enter f args=>
   refine⟨fun aC=>by simp[gb,Fence.wide]at aC,(Ol h).mono fun e agX he=> ?_⟩
   cases e with
   |returned v=>simp only at he⊢;rw[sC];exact aH _ _ v a.defers rfl he
   |panicked qv=>exact aS _ _ he
   |outgrown=>exact absurd he fH
  case row row args=>
   refine⟨fun aC=>by simp[gb,Fence.wide]at aC,(acL h).mono fun v agX he=> ?_⟩
   rw[sC];exact aH _ _ v a.defers rfl he
 |halt x w'=>
  cases x<;>simp only[Oper.upon]at h<;>simp only[Oper.uponIn]
  case panic v=>exact aS _ _ h
theorem An (hv:∀(i:Nat) (o:Oper),ops[i]? =some o→∀c,o.op≠ .defer c) (b5:∀(i:Nat) (o:Oper) (d:Nat),ops[i]? =some o→o.dst=some d→T d=false) (fH:¬LetsOut Q)
 (cn:∀e b2 w',iB T av b2→Q e b2 w'→Q' e (eT b2 ds) w'):∀(is:List Nat) (a:Act) (w:World),iB T av a→wpOps P ops Q is a w→wpOpsIn (gb r) n P ops Q' is (eT a ds) w
 |[],a,w,ad,h=>cn _ _ _ ad h
 |i::is,a,w,ad,h=>by
  simp only[wpOps]at h
  simp only[wpOpsIn]
  cases bh:ops[i]? with
  |none=>rw[bh]at h;exact An hv b5 fH cn is a w ad h
  |some o=>
   rw[bh]at h
   simp only at h⊢
   have aC:∀x,o.dst=some x→T x=false:=fun x ah=>b5 i o x bh ah
   by_cases hw:Region.wanted o (yielded ops a.tmps)=true
   ·rw[if_pos hw]at h
    rw[if_pos (show Region.wanted o (yielded ops (eT a ds).tmps)=true from hw)]
    rcases h with h|h
    ·refine AG (hv i o bh) fH h (fun b2 w' v ms e dT=>An hv b5 fH cn is b2 w' ?_ dT) (fun qv w' dT=>cn _ _ _ ad dT)
     subst e
     exact(ad.congr (b:= { a with defers:=ms }) rfl).put aC v
    ·exact absurd h.2 fH
   ·rw[if_neg hw]at h
    rw[if_neg (show¬Region.wanted o (yielded ops (eT a ds).tmps)=true from hw)]
    refine⟨fun _ _=>trivial,?_⟩
    rw[sC]
    exact An hv b5 fH cn is _ w (ad.put aC undef) h
theorem Ao {md:Region.Mode} (hv:∀(i:Nat) (o:Oper),ops[i]? =some o→∀c,o.op≠ .defer c) (b5:∀(i:Nat) (o:Oper) (d:Nat),ops[i]? =some o→o.dst=some d→T d=false) (fH:¬LetsOut Q)
 (cn:∀e b2 w',iB T av b2→Q e b2 w'→Q' e (eT b2 ds) w'):∀(fuel:Nat) (listed:Array Bool) (a:Act) (w:World),iB T av a→wpAny P md ops Q fuel listed a w→wpAnyIn (gb r) n P md ops Q' fuel listed (eT a ds) w
 |0,listed,a,w,ad,h=>⟨h.1,cn _ _ _ ad h.2⟩
 |fuel+1,listed,a,w,ad,h=>by
  simp only[wpAny]at h
  simp only[wpAnyIn]
  refine⟨fun e=>cn _ _ _ ad (h.1 e),fun i hi=> ?_⟩
  have h:=h.2 i hi
  unfold wpOp at h
  unfold wpOpIn
  cases bh:ops[i]? with
  |none=>rw[bh]at h;exact Ao hv b5 fH cn fuel _ a w ad h
  |some o=>
   rw[bh]at h
   simp only at h⊢
   have aC:∀x,o.dst=some x→T x=false:=fun x ah=>b5 i o x bh ah
   by_cases hw:Region.wanted o (yielded ops a.tmps)=true
   ·rw[if_pos hw]at h
    rw[if_pos (show Region.wanted o (yielded ops (eT a ds).tmps)=true from hw)]
    rcases h with h|h
    ·refine AG (hv i o bh) fH h (fun b2 w' v ms e dT=>Ao hv b5 fH cn fuel _ b2 w' ?_ dT) (fun qv w' dT=>cn _ _ _ ad dT)
     subst e
     exact(ad.congr (b:= { a with defers:=ms }) rfl).put aC v
    ·exact absurd h.2 fH
   ·rw[if_neg hw]at h
    rw[if_neg (show¬Region.wanted o (yielded ops (eT a ds).tmps)=true from hw)]
    refine⟨fun _ _=>trivial,?_⟩
    rw[sC]
    exact Ao hv b5 fH cn fuel _ _ w (ad.put aC undef) h
end
section
variable {N:Nat} {aK:dU} {aF:Mem} {R:bC} {σ σ':St} {a:Act} {w w':World} {rd rd':Mem} {β β':bC} {P:Program} {Γ:Env} {ops:Array Oper} {r:Option Nat} {n:Nat} {ds:List Deferred} {T:Nat→Bool} {av:Nat→Value}
theorem Om {M:Nat} {l:List bE} (aB:pz P M ops ops.toList=some l):∀(i:Nat) (o:Oper),ops[i]? =some o→∀c,o.op≠ .defer c:=by
 intro i o bh c e
 have fB:=D3 aB
 have key:∀{os:List Oper} {kW:List bE},iF (fun o lo=>lv P M ops o=some lo) os kW→∀o∈os,∃lo,lv P M ops o=some lo:=by
  intro os kW h
  induction h with
  |nil=>intro o h;cases h
  |cons h1 _ cm=>
   intro o h
   rcases List.mem_cons.1 h with rfl|h
   ·exact⟨_,h1⟩
   ·exact cm o h
 obtain⟨lo,jm⟩:=key fB o (by
  rw[←Array.getElem?_toList]at bh
  exact List.mem_of_getElem? bh)
 obtain⟨o4,_,h1,_⟩:=wH jm
 rw[e]at h1
 cases h1
def FC (ops:Array Oper):List Nat:=ops.toList.filterMap (·.dst)
def j4:Code→List Nat
 | .region _ ops _=>FC ops
 | .seq a b=>j4 a++j4 b
 | .cond _ a b=>j4 a++j4 b
 | .block _ a=>j4 a
 | .loop a=>j4 a
 |_=>[]
theorem aaL {i:Nat} {o:Oper} {d:Nat} (bh:ops[i]? =some o) (aC:o.dst=some d):d∈FC ops:=by
 rw[←Array.getElem?_toList]at bh
 exact List.mem_filterMap.2 ⟨o,List.mem_of_getElem? bh,aC⟩
theorem On {Q:eg→St→Prop} :¬LetsOut (vk N aK aF R Q):=by rintro⟨a,w,h⟩;exact h
def xR (N:Nat) (aK:dU) (aF:Mem) (R:bC) (ds:List Deferred) (T:Nat→Bool) (av:Nat→Value) (Q:eg→St→Prop) (e:Exit) (b2:Act) (w':World):Prop:=
 ∃eb,b2=eT eb ds∧iB T av eb∧vk N aK aF R Q e eb w'
theorem M8 (hm:P.follows .mixedOrders=true) (cE:aO P aF Γ) {M:Nat} (bR:M≤N) {id:Nat} {drawn:Bool} {lc:au} (ae:dv P M (.region id ops drawn)=some lc) {Q:eg→St→Prop}
 (b5:∀d∈FC ops,T d=false) (ad:iB T av a) (h:a8 N aK aF R σ a w rd β) (aZ:bZ Γ lc Q σ):(Code.region id ops drawn).wpIn (gb r) n P (xR N aK aF R ds T av Q) (eT a ds) w:=by
 have cn:∀e b2 w',iB T av b2→vk N aK aF R Q e b2 w'→xR N aK aF R ds T av Q e (eT b2 ds) w':=fun e b2 w' h1 h2=>⟨b2,rfl,h1,h2⟩
 obtain⟨l,aB,agY⟩:=Ed ae
 have hv:=Om aB
 have Ux:∀(i:Nat) (o:Oper) (d:Nat),ops[i]? =some o→o.dst=some d→T d=false:=fun i o d bh aC=>b5 d (aaL bh aC)
 rcases agY with ⟨rfl,rfl⟩|⟨rfl,kX,b9,rfl⟩
 ·simp only[bZ]at aZ
  exact wpIn_region (An hv Ux On cn _ _ _ ad (zS cE bR (fun _ _ h=>h) _ _ (wD aB) h aZ))
 ·simp only[bZ]at aZ
  refine wpIn_region_any hm (Ao hv Ux On cn _ _ _ _ ad ?_)
  have fB:=wD aB
  have hlen:l.length=ops.size:=by rw[←fB.length,List.length_range]
  obtain⟨β',aC⟩:=a8.je (uX (Region.before ops) (l.take (ops.size - hK (Region.before ops) ops.size))) h
  have Cm:(l.take (ops.size - hK (Region.before ops) ops.size)).length=ops.size - hK (Region.before ops) ops.size:=by rw[List.length_take];omega
  have gF:∀i,(Array.replicate ops.size false).getD i false=false:=fun i=>by
   rw[Array.getD_eq_getD_getElem?,Array.getElem?_replicate]
   split<;>rfl
  refine ND cE bR fB b9 (Nat.sub_le _ _) (fun j h1 h2=>D4 h1 h2) kX (fun _ _ h=>h) ops.size (rem:=(l.take (ops.size - hK (Region.before ops) ops.size)).zipIdx) (List.Sublist.refl _) ?_ (by simp)
   (fun k o bh bY=>by rw[gF]at bY;cases bY) (fun i o H5=> ?_) (fun i _ _=>gF i) aC.drew (by
    have:uX (Region.before ops) (l.take (ops.size - hK (Region.before ops) ops.size))=(l.take (ops.size - hK (Region.before ops) ops.size)).zipIdx.map (tag (Region.before ops) (l.take (ops.size - hK (Region.before ops) ops.size))):=rfl
    rw[←this];exact aZ)
  ·rw[List.length_zipIdx,Cm];omega
  ·rw[List.mem_zipIdx_iff_getElem?]
   simp only[gF,iff_true]
   exact H5
theorem LU {F:Fence} {c:Code} {Q:Exit→Act→World→Prop} (J:Nat→Act→World→Prop) (m:Nat) (h₀:J m a w)
 (round:∀m a w,J m a w→c.wpIn F n P (Exit.then (fun b2 w'=>∃eB,eB<m∧J eB b2 w') Q) a w):(Code.loop c).wpIn F n P Q a w:=by
 intro b k cs agZ ar aq
 have key:∀m a w,J m a w→
  ∃e b2 w',Q e b2 w'∧ArrivesIn (Machine.fenced P F) P (lone (b.atR a (.code c:: .inLoop c::k)) cs w) b k cs e b2 w':=by
  intro m
  induction m using Nat.strongRecOn with
  |_ m cm=>
   intro a w fZ
   obtain⟨e,fV,fW,aZ,eZ⟩:=round m a w fZ b (.inLoop c::k) cs agZ ar aq
   cases e with
   |normal=>
    obtain⟨eB,bp,FX⟩:=aZ
    obtain⟨s8,s9,ta,sX,sN⟩:=cm eB bp fV fW FX
    exact⟨s8,s9,ta,sX,.of_steps (StepsIn.trans eZ (.one (fenced_calm ar aq rfl) stepR_inLoop)) sN⟩
   |exit id=>exact⟨_,fV,fW,aZ,.pass (x:= .inLoop c) rfl (fun _ _=> .inl (by simp)) eZ⟩
   |goto l=>exact⟨_,fV,fW,aZ,.pass (x:= .inLoop c) rfl (fun _ _=> .inl (by simp)) eZ⟩
   |ret=>exact⟨_,fV,fW,aZ,.pass (x:= .inLoop c) rfl (fun _ _=> .inl (by simp)) eZ⟩
   |panic qv=>exact⟨_,fV,fW,aZ,.pass (x:= .inLoop c) rfl (fun _ _=> .inl (by simp)) eZ⟩
   |outgrown=>exact⟨_,fV,fW,aZ,.pass (x:= .inLoop c) rfl (fun _ _=> .inl (by simp)) eZ⟩
 obtain⟨e,b2,w',aZ,eZ⟩:=key _ a w h₀
 exact⟨e,b2,w',aZ,.of_steps (.one (fenced_calm ar aq rfl) stepR_loop) eZ⟩
theorem E9 (hm:P.follows .mixedOrders=true) (cE:aO P aF Γ) {M:Nat} (bR:M≤N):∀(c:Code) {lc:au} {Q:eg→St→Prop} {σ:St} {a:Act} {w:World} {rd:Mem} {β:bC},dv P M c=some lc→(∀d∈j4 c,T d=false)→iB T av a→
 a8 N aK aF R σ a w rd β→bZ Γ lc Q σ→c.wpIn (gb r) n P (xR N aK aF R ds T av Q) (eT a ds) w:=by
 intro c
 induction c with
 |skip=>
  intro lc Q σ a w rd β ae b5 gm h ad
  simp only[dv,Option.some.injEq]at ae;subst ae
  exact wpIn_skip ⟨a,rfl,gm,σ,rd,β,ad,h⟩
 |region id ops drawn=>
  intro lc Q σ a w rd β ae b5 gm h ad
  exact M8 hm cE bR ae b5 gm h ad
 |seq x y jo lR=>
  intro lc Q σ a w rd β ae b5 gm h ad
  simp only[dv]at ae
  simp only[j4,List.mem_append]at b5
  split at ae
  ·rename_i cP ga ah hy
   simp only[Option.some.injEq]at ae;subst ae
   simp only[bZ]at ad
   refine wpIn_seq (wpIn_mono (jo ah (fun d aC=>b5 d (.inl aC)) gm h ad) fun e b2 w' he=> ?_)
   obtain⟨eb,rfl,mz,he⟩:=he
   cases e with
   |normal=>obtain⟨σ',rd',β',h1,h2⟩:=he;exact lR hy (fun d aC=>b5 d (.inr aC)) mz h2 h1
   |exit id=>exact⟨eb,rfl,mz,he⟩
   |ret=>exact⟨eb,rfl,mz,he⟩
   |_=>exact he.elim
  ·cases ae
 |cond Cn x y jo lR=>
  intro lc Q σ a w rd β ae b5 gm h ad
  simp only[dv]at ae
  simp only[j4,List.mem_append]at b5
  split at ae
  ·rename_i aT cP ga ao ah hy
   simp only[Option.some.injEq]at ae;subst ae
   simp only[bZ]at ad
   have aq:=ef h ao
   split at ad
   ·rename_i t tJ
    rw[tJ]at aq
    simp only[aP,bn]at aq
    rw[←Ef a ds]at aq
    cases t with
    |true=>exact wpIn_cond_true aq (jo ah (fun d aC=>b5 d (.inl aC)) gm h (ad.1 rfl))
    |false=>exact wpIn_cond_false aq (lR hy (fun d aC=>b5 d (.inr aC)) gm h (ad.2 rfl))
   ·exact ad.elim
  ·cases ae
 |block id x cm=>
  intro lc Q σ a w rd β ae b5 gm h ad
  simp only[dv]at ae
  obtain⟨cP,ah,rfl⟩:=map_some ae
  simp only[bZ]at ad
  refine wpIn_block (wpIn_mono (cm ah b5 gm h ad) fun e b2 w' he=> ?_)
  obtain⟨eb,rfl,mz,he⟩:=he
  cases e with
  |normal=>exact⟨eb,rfl,mz,he⟩
  |exit j=>
   obtain⟨σ',rd',β',h1,h2⟩:=he
   simp only at h1
   unfold Exit.inBlock
   simp only
   split at h1
   ·rename_i az;rw[if_pos az];exact⟨eb,rfl,mz,σ',rd',β',h1,h2⟩
   ·rename_i az;rw[if_neg az];exact⟨eb,rfl,mz,σ',rd',β',h1,h2⟩
  |ret=>exact⟨eb,rfl,mz,he⟩
  |_=>exact he.elim
 |loop x cm=>
  intro lc Q σ a w rd β ae b5 gm h ad
  simp only[dv]at ae
  obtain⟨cP,ah,rfl⟩:=map_some ae
  simp only[bZ,sQ]at ad
  obtain⟨I,dN,h0,fZ⟩:=ad
  refine LU (fun m b2 w=>∃eb,b2=eT eb ds∧iB T av eb∧hb N aK aF R (fun s=>I s∧dN s=m) eb w) (dN σ) ⟨a,rfl,gm,σ,rd,β,⟨h0,rfl⟩,h⟩ ?_
  rintro m b2 w ⟨eb,rfl,gm,s,rd',β',⟨h1,rfl⟩,h2⟩
  refine wpIn_mono (cm ah b5 gm h2 (fZ s h1)) fun e b2 w' he=> ?_
  obtain⟨eR,rfl,mz,he⟩:=he
  cases e with
  |normal=>
   obtain⟨df,e6,iq,⟨br,bw⟩,c3⟩:=he
   exact⟨dN df,bw,eR,rfl,mz,df,e6,iq,⟨br,rfl⟩,c3⟩
  |exit j=>exact⟨eR,rfl,mz,he⟩
  |ret=>exact⟨eR,rfl,mz,he⟩
  |_=>exact he.elim
 |exit id=>
  intro lc Q σ a w rd β ae b5 gm h ad
  simp only[dv,Option.some.injEq]at ae;subst ae
  exact wpIn_exit ⟨a,rfl,gm,σ,rd,β,ad,h⟩
 |ret=>
  intro lc Q σ a w rd β ae b5 gm h ad
  simp only[dv,Option.some.injEq]at ae;subst ae
  exact wpIn_ret ⟨a,rfl,gm,σ,rd,β,ad,h⟩
 |_=>intro lc Q σ a w rd β ae b5 gm h ad;cases ae
end
end RV
namespace RV
open Go Go.RowKit
structure kx where
 pre:List D→Prop
 seq:List D→Nat→Option (List D)
structure tb (p:Nat→Option Obj) (w:World) (c9:Nat→Option Obj) (w':World):Prop where
 os:w'.os=w.os
 tape:w'.tape=w.tape
 output:w'.output=w.output
 size:w.heap.size≤w'.heap.size
 block:∀k,k<w.heap.size→p k=none→w'.heap[k]? =w.heap[k]?
 Uy:∀k o,c9 k=some o→w'.heap[k]? =some o∧(∃c t cd,o= .cells c t cd)∧(p k=none→w.heap.size≤k)
def H7:Nat→Option Obj:=fun _=>none
def Uz (P:Program) (B:Mem) (f:Nat) (C:kx):Prop:=
 sT P f∧∀ds,C.pre ds→∀(w:World) (rd:Mem) (da:Array Value) (l M:Nat) (J:Nat→(Nat→Option Obj)→Mem→World→Prop) (Jx:(Nat→Option Obj)→World→Prop),
  bT B rd→bT rd w.cell?→bI rd ds da.toList→0<M→J 0 H7 rd w→
  (∀k p m bW c9 eB cy,J k p m bW→tb p bW c9 cy→bT m eB→bT eB cy.cell?→(∀aL v,eB aL=some v→aL.block<bW.heap.size→m aL=some v)→(∀aL v,eB aL=some v→c9 aL.block=none)→J k c9 eB cy)→
  (∀p bW c9 cy,Jx p bW→tb p bW c9 cy→Jx c9 cy)→
  (∀k p m bW x (vs:Array Value),k<M→C.seq ds k=some x→J k p m bW→bI m x vs.toList→∀n,YieldAt (gb none) n P l vs bW fun e cy=>
   bT m cy.cell?∧(∀b o,p b=some o→cy.heap[b]? =some o)∧((e= .returned (.bool true)∧J (k+1) p m cy∧k+1<M)∨(e= .returned (.bool false)∧Jx p cy)))→
  Calls P f (#[.func (.yield l) #[] #[]]++da) w fun e w'=>∃v,e= .returned v∧((∃k p m,C.seq ds k=none∧J k p m w')∨∃p,Jx p w')
def ag.gP (σ:St) (i:Nat):ag→ag
 | .own j lo n=>if j=i then (match toD σ (.own j lo n)with|some x=>cX x|none=> .any)else .own j lo n
 | .box j o=>if j=i then (match toD σ (.box j o)with|some x=>cX x|none=> .any)else .box j o
 |v=>if v.has i=true then .any else v
def St.gP (σ:St) (i:Nat):St:=⟨fun t=>(σ.af t).gP σ i,fun j=>if j=i then none else (σ.aw j).map (b1.fm (ag.gP σ i))⟩
def ad2 (σ:St) (K:St→Prop):Option Nat→Prop
 |none=>K σ
 |some i=>(∃b,σ.aw i=some b∧b.ext=false)∧K (σ.gP i)
section
variable {N:Nat} {aK:dU} {aF:Mem} {R:bC} {σ:St} {a:Act} {w:World} {rd:Mem} {β:bC}
theorem a8.gP (h:a8 N aK aF R σ a w rd β) {i:Nat} {b:b1} (ar:σ.aw i=some b) (he:b.ext=false):
 a8 N aK aF R (σ.gP i) a w (plus w (fun aL=>∃r,β i=some r∧r.has aL) rd) (eK β i none):=by
 have hle:=jH w (fun aL=>∃r,β i=some r∧r.has aL) rd
 have FD:∀v u,v.has i=false→aP rd β v u→aP (plus w (fun aL=>∃r,β i=some r∧r.has aL) rd) (eK β i none) v u:=fun v u aA H=>
  aP.congr v u (fun j az=>by
   have:j≠i:=fun e=>by subst e;rw[aA]at az;cases az
   simp[eK,this]) (aP.mono hle v u H)
 have sV:∀v u d,(∀j,v.has j=true→j=i)→toD σ v=some d→aP rd β v u→aP (plus w (fun aL=>∃r,β i=some r∧r.has aL) rd) (eK β i none) (cX d) u:=fun v u d aA aC H=>
  ml (toD_rep h v u d aC H fun j r aL az aq a2=>by
   have:=aA j az;subst this
   exact⟨r,aq,a2⟩)
 have Gg:∀u,aP (plus w (fun aL=>∃r,β i=some r∧r.has aL) rd) (eK β i none) .any u:=fun u=>by simp only[aP]
 have hf:∀x v,aP rd β x v→aP (plus w (fun aL=>∃r,β i=some r∧r.has aL) rd) (eK β i none) (x.gP σ i) v:=fun x v H=>by
  cases x with
  |own j lo n=>
   simp only[ag.gP]
   split
   ·rename_i e
    subst e
    split
    ·rename_i d aC
     exact sV _ _ _ (fun k ad=>by simp only[ag.has,beq_iff_eq]at ad;exact ad.symm) aC H
    ·exact Gg v
   ·rename_i e
    exact FD _ _ (by simpa [ag.has]using e) H
  |box j o=>
   simp only[ag.gP]
   split
   ·rename_i e
    subst e
    split
    ·rename_i d aC
     exact sV _ _ _ (fun k ad=>by simp only[ag.has,beq_iff_eq]at ad;exact ad.symm) aC H
    ·exact Gg v
   ·rename_i e
    exact FD _ _ (by simpa [ag.has]using e) H
  |_=>
   simp only[ag.gP]
   split
   ·exact Gg v
   ·rename_i e
    exact FD _ _ (by simpa using e) H
 have vl:∀{k:Nat} {r:cY},k≠i→β k=some r→∀aL,r.has aL→plus w (fun aL=>∃r,β i=some r∧r.has aL) rd aL=rd aL:=fun {k r} ad aq aL a2=>oi (by
  rintro⟨r',dJ,mJ⟩
  exact h.dS k i r r' ad aq dJ aL a2 mJ)
 have xS:∀{k:Nat} {r:cY},k≠i→eK β i none k=some r→β k=some r:=fun {k r} ad aq=>by simpa [eK,ad]using aq
 have lL:∀{k:Nat} {r:cY},eK β i none k=some r→k≠i:=fun {k r} aq e=>by subst e;rw[nc]at aq;cases aq
 exact {
  size:=h.size
  defers:=h.defers
  cw:=h.cw
  c4:=fun k o ad=>⟨(h.c4 k o ad).1.to (fun aL v e ar=>by
   by_cases ay:∃r,β i=some r∧r.has aL
   ·obtain⟨r,aq,a2⟩:=ay
    exact .inr ⟨i,r,aq,by rw[←ar];exact a2.1.symm⟩
   ·rw[oi ay]at e;exact .inl e) (fun j r' az e=>⟨j,r',xS (lL az) az,e⟩),(h.c4 k o ad).2⟩
  cJ:=oo h.cJ
  dd:=h.dd.trans hle
  aF:=fun aL v e aB=>by
   by_cases ay:∃r,β i=some r∧r.has aL
   ·obtain⟨r,aq,a2⟩:=ay
    obtain⟨fD,ah,_,_,h1,_⟩:=h.box i r aq
    rw[ar]at ah;simp only[Option.some.injEq]at ah;subst ah
    have:=(h1 he).1
    have:=a2.1
    omega
   ·rw[oi ay]at e;exact h.aF aL v e aB
  dV:=fun k r fD ad ah bg aL a2=>by
   have kl:=lL ad
   have mM:=xS kl ad
   rw[vl kl mM aL a2]
   simp only[St.gP,if_neg kl]at ah
   obtain⟨cR,h0,_⟩:=h.box k r mM
   rw[h0]at ah
   simp only[Option.map_some,Option.some.injEq]at ah
   subst ah
   exact h.dV k r cR mM h0 bg aL a2
  dW:=fun t=>hf _ _ (h.dW t)
  box:=fun k r ad=>by
   have kl:=lL ad
   have mM:=xS kl ad
   obtain⟨cR,h0,de,eM,h1,h2⟩:=h.box k r mM
   refine⟨cR.fm (ag.gP σ i),by simp only[St.gP,if_neg kl,h0];rfl,?_,eM,h1,h2⟩
   have hm:ey w (plus w (fun aL=>∃r,β i=some r∧r.has aL) rd) (eK β i none) r (cR.c.fm (ag.gP σ i)):=by
    cases fR:cR.c with
    |cells cs=>
     rw[fR]at de
     refine⟨by simpa [BC.fm]using de.1,?_⟩
     have key:∀{cs:List ag} {o:Nat},cA w rd β r.bS o cs→cA w (plus w (fun aL=>∃r,β i=some r∧r.has aL) rd) (eK β i none) r.bS o (cs.map (ag.gP σ i)):=by
      intro cs
      induction cs with
      |nil=>intro o _;trivial
      |cons v vs cm=>rintro o ⟨⟨u,a1,a6⟩,cU⟩;exact⟨⟨u,a1,hf v u a6⟩,cm cU⟩
     exact key de.2
    |ints k xs=>rw[fR]at de;exact de.mono hle (fun _ _ _=>rfl) (fun cs e=>by cases e)
    |flts xs=>rw[fR]at de;exact de.mono hle (fun _ _ _=>rfl) (fun cs e=>by cases e)
    |recs sz xs=>rw[fR]at de;exact de.mono hle (fun _ _ _=>rfl) (fun cs e=>by cases e)
   exact hm
  dP:=fun k fD ah ad=>by
   simp only[St.gP]at ah
   split at ah
   ·cases ah
   ·rename_i kl
    have bY:β k=none:=by simpa [eK,kl]using ad
    cases h0:σ.aw k with
    |none=>rw[h0]at ah;cases ah
    |some cR=>
     rw[h0]at ah
     simp only[Option.map_some,Option.some.injEq]at ah
     subst ah
     obtain⟨br,bw⟩:=h.dP k cR h0 bY
     exact⟨br,by rw[←bw];exact uD _ cR.c⟩
  dS:=fun j k ha kt lK az ad=>h.dS j k ha kt lK (xS (lL az) az) (xS (lL ad) ad) }
end
inductive jz where
 |c (a:au)
 |seq (a b:jz)
 |block (id:Nat) (a:jz)
 |vG (g:bk) (ps ws:List Nat) (jO body:au)
 |Bt (i j:Nat) (ek:dL)
def Be (P:Program) (N:Nat) (ops:Array Oper):Option (Nat×dL):=
 match ops.toList with
 |[o]=>match o.op,o.dst,o.guard with
  | .alloc e,some i,none=>match P.underlying e,(P.info? e).bind (·.zero)with
    |some (.slice t),some (.slice none 0 0)=>if i<N then (mm P t).map (fun ek=>(i,ek))else none
    |_,_=>none
  |_,_,_=>none
 |_=>none
def oy (P:Program) (N:Nat):Code→Option jz
 | .seq a b=>match dv P N (.seq a b)with
   |some l=>some (.c l)
   |none=>match oy P N a,oy P N b with
    |some x,some y=>some (.seq x y)
    |_,_=>none
 | .block id a=>match dv P N (.block id a)with
   |some l=>some (.c l)
   |none=>(oy P N a).map (.block id)
 | .rangeFunc g ps jO body=>match dz P g,dv P N jO,dv P N body with
   |some g,some a,some b=>if ps.toList.all (fun p=>decide (p<N))then some (.vG g ps.toList (ps.toList++j4 jO++j4 body) a b)else none
   |_,_,_=>none
 | .region id ops d=>match (if d=true then none else Be P N ops)with
   |some (i,ek)=>some (.Bt i (i+500000) ek)
   |none=>(dv P N (.region id ops d)).map .c
 |c=>(dv P N c).map .c
def uQ (P:Program) (f:Nat):Option (jz×List bl):=
 match P.funcs[f]? with
 |some fn=>match fn.body with
  |some c=>match oy P fn.ntmps c,qS P fn.results.toList with
   |some l,some r=>some (l,r)
   |_,_=>none
  |none=>none
 |none=>none
def St.only (σ:St) (ws:List Nat):St:=⟨fun t=>if ws.contains t=true then .any else σ.af t,σ.aw⟩
def xT (σ:St):List Nat→List D→St
 |p::ps,d::ds=>xT (σ.put (some p) (cX d)) ps ds
 |_,_=>σ
def g7 (Γ:Env) (S:Nat→Option kx):jz→(eg→St→Prop)→St→Prop
 | .c l,Q,σ=>bZ Γ l Q σ
 | .seq a b,Q,σ=>g7 Γ S a (fun e s=>match e with| .normal=>g7 Γ S b Q s|e=>Q e s) σ
 | .block id a,Q,σ=>g7 Γ S a (fun e s=>match e with| .exit j=>if j=id then Q .normal s else Q (.exit j) s|e=>Q e s) σ
 | .Bt i j ek,Q,σ=>Q .normal (((σ.fresh j ⟨false,false,lj ek⟩).fresh i ⟨false,false,.cells [.own j 0 0]⟩).put (some i) (.box i 0))
 | .vG g ps ws jO body,Q,σ=>match σ.aT g with
   | .d (.fn f [] cap)=>match S f with
     |some C=>C.pre cap∧∃(I:Nat→St→Prop) (M:Nat),0<M∧I 0 (σ.only ws)∧
      (∀k x s,k<M→C.seq cap k=some x→I k s→x.length=ps.length∧
       bZ Γ jO (fun e s1=>match e with
        | .normal=>bZ Γ body (fun e s2=>match e with
          | .normal=>I (k+1) (s2.only ws)∧k+1<M
          |e=>Q e (s2.only ws)) s1
        |_=>False) (xT s ps x))∧
      (∀k s,C.seq cap k=none→I k s→∃m,ad2 s (Q .normal) m)
     |none=>False
   |_=>False
theorem Ap {Γ:Env} {S:Nat→Option kx} :∀(l:jz) {Q Q':eg→St→Prop} {σ:St},(∀e s,Q e s→Q' e s)→g7 Γ S l Q σ→g7 Γ S l Q' σ
 | .c l,_,_,_,h,k=>h8 l h k
 | .seq a b,_,_,_,h,k=>Ap a (fun e s ad=>by cases e<;>first|exact Ap b h ad|exact h _ _ ad) k
 | .block id a,_,_,_,h,k=>Ap a (fun e s ad=>by
  cases e with
  |exit j=>simp only at ad⊢;split at ad<;>rename_i az<;>simp only[az,if_true,if_false]<;>exact h _ _ ad
  |normal=>exact h _ _ ad
  |ret=>exact h _ _ ad) k
 | .Bt i j ek,_,_,_,h,k=>h _ _ k
 | .vG g ps ws jO body,Q,Q',σ,h,k=>by
   simp only[g7]at k⊢
   split at k
   ·split at k
    ·rename_i f cap C fE
     obtain⟨aS,I,M,h0,fZ,aq,aC⟩:=k
     refine⟨aS,I,M,h0,fZ,fun k x s ad ah ay=> ?_,fun k s aH ay=>by
      obtain⟨m,hm⟩:=aC k s aH ay
      refine⟨m,?_⟩
      cases m with
      |none=>exact h _ _ hm
      |some i=>exact⟨hm.1,h _ _ hm.2⟩⟩
     obtain⟨h1,h2⟩:=aq k x s ad ah ay
     refine⟨h1,h8 jO (fun e s1 he=> ?_) h2⟩
     cases e with
     |normal=>
      refine h8 body (fun e s2 he=> ?_) he
      cases e with
      |normal=>exact he
      |exit j=>exact h _ _ he
      |ret=>exact h _ _ he
     |exit j=>exact he
     |ret=>exact he
    ·exact k.elim
   ·exact k.elim
theorem pA {Γ:Env} {S:Nat→Option kx} {a b:jz} {Q:eg→St→Prop} {σ:St} (K:St→Prop) (a2:g7 Γ S a (fun e s=>match e with| .normal=>K s|e=>Q e s) σ) (ar:∀s,K s→g7 Γ S b Q s):g7 Γ S (.seq a b) Q σ:=by
 simp only[g7]
 refine Ap a (fun e s h=> ?_) a2
 cases e with
 |normal=>exact ar s h
 |exit j=>exact h
 |ret=>exact h
def vm (Γ:Env) (S:Nat→Option kx) (l:jz) (rs:List bl) (args:List D) (K:D→Prop):Prop:=
 g7 Γ S l (fun e σ=>match e with| .exit _=>False|_=>iD rs σ K) (mG args)
section
variable {N:Nat} {aK:dU} {aF:Mem} {R:bC} {σ σ':St} {a:Act} {w w':World} {rd rd':Mem} {β β':bC} {P:Program} {Γ:Env} {n:Nat}
theorem a8.only (h:a8 N aK aF R σ a w rd β) (ws:List Nat):a8 N aK aF R (σ.only ws) a w rd β:=
 have ae:∀t,aP rd β ((σ.only ws).af t) (a.tmps.getD t undef):=fun t=>by
  simp only[St.only]
  split
  ·simp only[aP]
  ·exact h.dW t
 { size:=h.size,defers:=h.defers,cw:=h.cw,c4:=h.c4,cJ:=h.cJ,dd:=h.dd,aF:=h.aF,dV:=h.dV,dW:=ae,box:=h.box,dP:=h.dP,dS:=h.dS }
theorem a8.back {eX:Act} (h:a8 N aK aF R σ eX w rd β) {ws:List Nat} (ay:a.tmps.size=N) (aC:a.defers=[]) (ad:iB (fun t=> !ws.contains t) (fun t=>a.tmps.getD t undef) eX):
 a8 N aK aF R (σ.only ws) a w rd β:=
 have ae:∀t,aP rd β ((σ.only ws).af t) (a.tmps.getD t undef):=fun t=>by
  simp only[St.only]
  by_cases ae:ws.contains t=true
  ·rw[if_pos ae];simp only[aP]
  ·rw[if_neg ae]
   have e:eX.tmps.getD t undef=a.tmps.getD t undef:=ad t (by simpa using ae)
   rw[←e];exact h.dW t
 { size:=ay,defers:=aC,cw:=h.cw,c4:=h.c4,cJ:=h.cJ,dd:=h.dd,aF:=h.aF,dV:=h.dV,dW:=ae,box:=h.box,dP:=h.dP,dS:=h.dS }
theorem a8.adv (h:a8 N aK aF R σ a w rd β):a8 N aK rd R σ a w rd β:=
 { h with dd:=bT.refl _,aF:=fun _ _ e _=>e }
theorem a8.adw {e6:Mem} (h:a8 N aK e6 R σ a w rd β) (hm:bT aF e6) (h0:∀aL v,e6 aL=some v→aL.block<aK.heap.size→aF aL=some v):a8 N aK aF R σ a w rd β:=
 { h with dd:=hm.trans h.dd,aF:=fun aL v e aB=>h0 aL v (h.aF aL v e aB) aB }
def jq (ot:Nat→Option Obj) (l:Nat) (o:Obj):Nat→Option Obj:=fun k=>if k=l then some o else ot k
theorem a8.xU {ot lU:Nat→Option Obj} {W:World} (h:a8 N ⟨W,ot⟩ aF R σ a w rd β) (bh:∀k o,lU k=some o→Safe rd β k o∧w.heap[k]? =some o):a8 N ⟨W,lU⟩ aF R σ a w rd β:=
 { size:=h.size,defers:=h.defers,cw:=h.cw,c4:=bh,cJ:=h.cJ,dd:=h.dd,aF:=h.aF,dV:=h.dV,dW:=h.dW,box:=h.box,dP:=h.dP,dS:=h.dS }
theorem abj {l:Nat} {o:Obj} (bh:qT o) (aB:w.heap[l]? =some o) {aL:Addr} (ar:aL.block=l):w.cell? aL=none:=by
 unfold World.cell?
 rw[ar,aB]
 cases o with
 |cells c t cd=>exact absurd rfl (bh c t cd)
 |_=>rfl
theorem a8.Bu {ot:Nat→Option Obj} {W:World} (h:a8 N ⟨W,ot⟩ aF R σ a w rd β) {l:Nat} {o o':Obj} (aB:w.heap[l]? =some o) (bh:qT o) (hr:qT o') (hW:W.heap.size≤l):a8 N ⟨W,jq ot l o'⟩ aF R σ a (w.putObj l o') rd β:=by
 have bp:=(Array.getElem?_eq_some_iff.1 aB).1
 have vl:∀k,k≠l→(w.putObj l o').heap[k]? =w.heap[k]? :=fun k ad=>World.putObj_heap_other ad
 have gl:∀aL v,w.cell? aL=some v→(w.putObj l o').cell? aL=some v:=fun aL v aA=>by
  have dX:aL.block≠l:=fun e=>by rw[abj bh aB e]at aA;cases aA
  rw[na (vl _ dX)];exact aA
 have vg:∀{r:cY},kN w r→r.bS≠l:=fun {r} aS e=>by
  obtain⟨arr,t,cd,h1,_⟩:=aS
  rw[e,aB]at h1
  exact bh _ _ _ (Option.some.inj h1)
 exact {
  size:=h.size
  defers:=h.defers
  cw:=⟨h.cw.os,h.cw.tape,h.cw.output,by rw[World.putObj_size];exact h.cw.size,fun k ad=>by
   rw[vl k (by have ad:k<W.heap.size:=ad;omega)];exact h.cw.block k ad⟩
  c4:=fun k x ad=>by
   simp only[jq]at ad
   split at ad
   ·rename_i e
    subst e
    simp only[Option.some.injEq]at ad;subst ad
    exact⟨.inl hr,World.putObj_heap_same bp⟩
   ·rename_i e
    obtain⟨h1,h2⟩:=h.c4 k x ad
    exact⟨h1,by rw[vl k e];exact h2⟩
  cJ:=fun aL v e=>gl aL v (h.cJ aL v e)
  dd:=h.dd
  aF:=h.aF
  dV:=h.dV
  dW:=h.dW
  box:=fun i r hi=>by
   obtain⟨b,ah,ao,aS,h1,h2⟩:=h.box i r hi
   have ar:=vl _ (vg aS)
   exact⟨b,ah,ao.mono (bT.refl _) (fun j _ _=>na ar) (fun _ _ _ _ _ H=>H),aS.sE ar,h1,h2⟩
  dP:=h.dP
  dS:=h.dS }
def hU (ot p:Nat→Option Obj):Nat→Option Obj:=fun k=>match p k with
 |some o=>some o
 |none=>ot k
def pI (w w':World) (p:Nat→Option Obj) (rd:Mem):Mem:=fun aL=>if aL.block<w.heap.size then rd aL else if (p aL.block).isNone=true then w'.cell? aL else none
theorem xg {ot p:Nat→Option Obj} {k:Nat} {o:Obj} (h:p k=some o):hU ot p k=some o:=by unfold hU;rw[h]
theorem AH {ot p:Nat→Option Obj} {k:Nat} (h:p k=none):hU ot p k=ot k:=by unfold hU;rw[h]
theorem ab1 (ot:Nat→Option Obj):hU ot H7=ot:=rfl
theorem a8.grow {ot p c9:Nat→Option Obj} {W cy:World} (h:a8 N ⟨W,hU ot p⟩ aF R σ a w rd β) (g:tb p w c9 cy) (aS:∀b o,p b=some o→W.heap.size≤b∧∃c t cd,o= .cells c t cd) (h1:∀k o,ot k=some o→p k=none∧c9 k=none):
 a8 N ⟨W,hU ot c9⟩ aF R σ a cy (pI w cy c9 rd) β:=by
 have FE:∀b o,p b=some o→(∀i r,β i=some r→r.bS≠b)∧∀aL:Addr,aL.block=b→rd aL=none:=fun b o ar=>by
  obtain⟨_,c,t,cd,rfl⟩:=aS b o ar
  rcases (h.c4 b _ (xg ar)).1 with k|k
  ·exact absurd rfl (k _ _ _)
  ·exact k
 have n5:∀i r,β i=some r→p r.bS=none:=fun i r hi=>by
  cases e:p r.bS with
  |none=>rfl
  |some o=>exact absurd rfl ((FE _ _ e).1 i r hi)
 have H8:∀i r,β i=some r→r.bS<w.heap.size:=fun i r hi=>by obtain⟨_,_,_,aS,_⟩:=h.box i r hi;exact aS.lt
 have same:∀aL:Addr,aL.block<w.heap.size→pI w cy c9 rd aL=rd aL:=fun aL aB=>by unfold pI;rw[if_pos aB]
 have hle:bT rd (pI w cy c9 rd):=fun aL v e=>by rw[same aL (qL (h.cJ aL v e))];exact e
 exact {
  size:=h.size
  defers:=h.defers
  cw:=⟨g.os.trans h.cw.os,g.tape.trans h.cw.tape,g.output.trans h.cw.output,Nat.le_trans h.cw.size g.size,fun k ad=>by
   have bY:k<W.heap.size:=ad
   have:p k=none:=by
    cases e:p k with
    |none=>rfl
    |some o=>have:=(aS k o e).1;omega
   rw[g.block k (Nat.lt_of_lt_of_le bY h.cw.size) this]
   exact h.cw.block k ad⟩
  c4:=fun k o ad=>by
   have bY:hU ot c9 k=some o:=ad
   cases e:c9 k with
   |some o'=>
    rw[xg e]at bY
    simp only[Option.some.injEq]at bY;subst bY
    obtain⟨cW,dy,fM⟩:=g.Uy k o' e
    refine⟨.inr ?_,cW⟩
    cases q:p k with
    |some cV=>
     obtain⟨s1,s2⟩:=FE k cV q
     exact⟨s1,fun aL ar=>by
      unfold pI
      split
      ·exact s2 aL ar
      ·rw[ar,e];rfl⟩
    |none=>
     have:=fM q
     exact⟨fun i r hi=>by have:=H8 i r hi;omega,fun aL ar=>by
      unfold pI
      rw[if_neg (by omega),ar,e];rfl⟩
   |none=>
    rw[AH e]at bY
    obtain⟨q,_⟩:=h1 k o bY
    obtain⟨s1,s2⟩:=h.c4 k o (by show hU ot p k=some o;rw[AH q];exact bY)
    have bp:=(Array.getElem?_eq_some_iff.1 s2).1
    exact⟨s1.to (fun aL v e ar=> .inl (by rw[←same aL (by omega)];exact e)) (fun i r hi e=>⟨i,r,hi,e⟩),by rw[g.block k bp q];exact s2⟩
  cJ:=fun aL v e=>by
   unfold pI at e
   split at e
   ·rename_i aB
    have aH:p aL.block=none:=by
     cases q:p aL.block with
     |none=>rfl
     |some o=>rw[(FE _ _ q).2 aL rfl]at e;cases e
    rw[na (g.block _ aB aH)]
    exact h.cJ aL v e
   ·split at e
    ·exact e
    ·cases e
  dd:=h.dd.trans hle
  aF:=fun aL v e aB=>h.aF aL v (by rw[←same aL (Nat.lt_of_lt_of_le aB h.cw.size)];exact e) aB
  dV:=fun i r b hi ah bg aL a2=>by rw[same aL (by rw[a2.1];exact H8 i r hi)];exact h.dV i r b hi ah bg aL a2
  dW:=fun t=>(h.dW t).mono hle
  box:=fun i r hi=>by
   obtain⟨b,ah,ao,aS,br,bw⟩:=h.box i r hi
   have ar:=g.block _ (H8 i r hi) (n5 i r hi)
   exact⟨b,ah,ao.mono hle (fun j _ _=>na ar) (fun _ _ v _ u H=>aP.mono hle v u H),aS.sE ar,br,bw⟩
  dP:=h.dP
  dS:=h.dS }
theorem M9:∀{ps:List Nat} {x:List D} {vs:List Value} {σ:St} {a:Act},a8 N aK aF R σ a w rd β→bI rd x vs→(∀p∈ps,p<N)→x.length=ps.length→
 a8 N aK aF R (xT σ ps x) { tmps:=(ps.zip vs).foldl (fun t y=>t.setIfInBounds y.1 y.2) a.tmps,defers:=[] } w rd β∧
  ∀(T:Nat→Bool) (av:Nat→Value),(∀p∈ps,T p=false)→iB T av a→iB T av { tmps:=(ps.zip vs).foldl (fun t y=>t.setIfInBounds y.1 y.2) a.tmps,defers:=[] }
 |[],x,vs,σ,a,h,aq,aS,aB=>by
  have:({ tmps:=a.tmps,defers:=[] } :Act)=a:=by have:=h.defers;cases a;simp_all
  simp only[List.zip_nil_left,List.foldl_nil]
  rw[this]
  exact⟨by cases x<;>exact h,fun T av _ ad=>ad⟩
 |p::ps,[],vs,σ,a,h,aq,aS,aB=>by simp at aB
 |p::ps,d::x,vs,σ,a,h,aq,aS,aB=>by
  simp only[bI]at aq
  obtain⟨v,us,rfl,h1,h2⟩:=aq
  have ao:=h.put (dst:=some p) (by simp[gB,aS p (by simp)]) (ml (β:=β) h1)
  obtain⟨br,bw⟩:=M9 (ps:=ps) ao h2 (fun q aZ=>aS q (by simp[aZ])) (by simpa using aB)
  refine⟨br,fun T av b5 ad=>bw T av (fun q aZ=>b5 q (by simp[aZ])) (ad.put (fun y hy=> ?_) v)⟩
  simp only[Option.some.injEq]at hy
  subst hy
  exact b5 p (by simp)
def iC (D:Nat):Deferred:= { target:= .collected D,args:= #[] }
def qY (ot:Nat→Option Obj) (Ds:List Nat):Prop:=Ds.Nodup∧∀D∈Ds,ot D=some (.deferred (some []))
def vn (N:Nat) (W:World) (aF:Mem) (R:bC) (Q:eg→St→Prop) (e:Exit) (b2:Act) (w':World):Prop:=
 ∃(Ds:List Nat) (ot:Nat→Option Obj) (eb:Act),b2=eT eb (Ds.map iC)∧qY ot Ds∧(∀D∈Ds,W.heap.size≤D)∧vk N ⟨W,ot⟩ aF R Q e eb w'
def vo (P:Program) (B:Mem) (S:Nat→Option kx):Prop:=∀f C,S f=some C→Uz P B f C
theorem D5 (ds:Option (List Deferred)):qT (.deferred ds):=fun c t cd e=>by cases e
theorem pk (r:Loop):qT (.loop r):=fun c t cd e=>by cases e
theorem abk (hm:P.follows .mixedOrders=true) (cE:aO P aF Γ) {S:Nat→Option kx} (jy:vo P aF S) {M0:Nat} (bR:M0≤N) {W:World} {ot:Nat→Option Obj} {H9:Operand} {ps:Array Tmp} {jO body:Code} {g:bk} {ck da:au}
 (bb:dz P H9=some g) (a2:dv P M0 jO=some ck) (ar:dv P M0 body=some da) (Ia:ps.toList.all (fun p=>decide (p<M0))=true) {Q:eg→St→Prop} {Ds:List Nat}
 (h:a8 N ⟨W,ot⟩ aF R σ a w rd β) (fS:qY ot Ds) (gK:∀D∈Ds,W.heap.size≤D) (ad:g7 Γ S (.vG g ps.toList (ps.toList++j4 jO++j4 body) ck da) Q σ):
 (Code.rangeFunc H9 ps jO body).wpIn (gb none) n P (vn N W aF R Q) (eT a (Ds.map iC)) w:=by
 obtain⟨ws,Co⟩:∃ws,ws=ps.toList++j4 jO++j4 body:=⟨_,rfl⟩
 rw[←Co]at ad
 simp only[g7]at ad
 split at ad
 rotate_left
 ·exact ad.elim
 rename_i f cap ag0
 split at ad
 rotate_left
 ·exact ad.elim
 rename_i C fE
 obtain⟨Bp,I,M,cj,ag1,adx,ad3⟩:=ad
 have mN:=ef h bb
 rw[ag0]at mN
 simp only[aP,bn]at mN
 obtain⟨e8,Ib,aeD,bP,ca⟩:=mN
 have ag2:e8= #[]:=by
  simp only[bI]at bP
  exact Array.toList_eq_nil_iff.1 bP
 subst ag2
 obtain⟨ad4,b9⟩:=jy f C fE
 refine wpIn_rangeFunc ?_
 intro fn _
 obtain⟨rec,nJ⟩:∃rec:LoopState→Option Code→Loop,rec=fun st iV=> { state:=st,pending:=iV,fn,tmps:=a.tmps,params:=ps,assign:=jO,body,defers:=w.heap.size } :=⟨_,rfl⟩
 obtain⟨o6,Cp⟩:∃o6,(w.alloc (.deferred (some []))).alloc (.loop (rec .ready none))=o6:=⟨_,rfl⟩
 have ag3:o6.heap[w.heap.size+1]? =some (.loop (rec .ready none)):=by
  rw[←Cp];have:=World.alloc_heap_new (w.alloc (.deferred (some []))) (.loop (rec .ready none));rwa [World.size_alloc]at this
 have mL:Below w.heap.size w o6:=by
  rw[←Cp];exact((Below.refl _ w).alloc (Nat.le_refl _) _).alloc (by simp) _
 have ag4:o6.heap[w.heap.size]? =some (.deferred (some [])):=by
  rw[←Cp];exact(Below.heap_alloc _ _ _ (by simp)).trans (World.alloc_heap_new w _)
 have ag5:W.heap.size≤w.heap.size:=h.cw.size
 obtain⟨gL,Bv⟩:∃gL,gL=jq ot w.heap.size (.deferred (some [])):=⟨_,rfl⟩
 have UA:a8 N ⟨W,gL⟩ aF R σ a o6 rd β:=by
  refine(h.below mL).xU fun k o ad=> ?_
  rw[Bv]at ad
  simp only[jq]at ad
  split at ad
  ·rename_i e
   subst e
   simp only[Option.some.injEq]at ad;subst ad
   exact⟨.inl (D5 _),ag4⟩
  ·exact(h.below mL).c4 k o ad
 have aeE:∀p∈ps.toList,p<N:=fun p aS=>by
  exact Nat.lt_of_lt_of_le (of_decide_eq_true (List.all_eq_true.1 Ia p aS)) bR
 refine⟨w.heap.size+1,[iC w.heap.size],o6,{ target:= .fn (.func f) Ib,args:= #[.func (.yield (w.heap.size+1)) #[] #[]] },o6,f,#[.func (.yield (w.heap.size+1)) #[] #[]]++Ib,o6,?_,?_,fun _ _=>trivial,?_,fun aC=>by simp[gb,Fence.wide]at aC,?_⟩
 ·rw[←Cp,nJ];exact run_enterLoop_outer _ _ _ _ _
 ·rw[Ef]
  simp only[resolve,aeD]
  simp[go_sem]
 ·simp[invoke,go_sem,DR ad4]
 obtain⟨o7,Cq⟩:∃o7:(Nat→Option Obj)→Prop,o7=fun p=>∀b o,p b=some o→w.heap.size+2≤b∧∃c t cd,o= .cells c t cd:=⟨_,rfl⟩
 obtain⟨J,l6⟩:∃J:Nat→(Nat→Option Obj)→Mem→World→Prop,J=fun k p m w'=>(∃σ' rd' β',I k σ'∧a8 N ⟨W,hU gL p⟩ aF R σ' a w' rd' β'∧bT m rd')∧w'.heap[w.heap.size+1]? =some (.loop (rec .ready none))∧o7 p:=⟨_,rfl⟩
 obtain⟨Jx,ym⟩:∃Jx:(Nat→Option Obj)→World→Prop,Jx=fun p w'=>∃(e:eg) (c:Code),(match e with| .exit j=>c= .exit j| .ret=>c= .ret| .normal=>False)∧hb N ⟨W,hU gL p⟩ aF R (Q e) a w'∧w'.heap[w.heap.size+1]? =some (.loop (rec .done (some c)))∧o7 p:=⟨_,rfl⟩
 have FY:∀k o,gL k=some o→k<w.heap.size+1:=fun k o ad=>by
  rw[Bv]at ad
  simp only[jq]at ad
  split at ad
  ·omega
  ·have:=(Array.getElem?_eq_some_iff.1 (h.c4 k o ad).2).1
   omega
 have tI:∀p,o7 p→∀k,k<w.heap.size+2→p k=none:=fun p aS k ad=>by
  cases e:p k with
  |none=>rfl
  |some o=>rw[Cq]at aS;have:=(aS k o e).1;omega
 have UB:∀p bW c9 cy,o7 p→tb p bW c9 cy→w.heap.size+1<bW.heap.size→o7 c9:=fun p bW c9 cy aS g aB=>by
  rw[Cq]at aS⊢
  intro b o ar
  obtain⟨_,dy,fM⟩:=g.Uy b o ar
  refine⟨?_,dy⟩
  cases e:p b with
  |none=>have:=fM e;omega
  |some cV=>exact(aS b cV e).1
 have UC:∀{p bW c9 cy oS e6 iq},o7 p→o7 c9→a8 N ⟨W,hU gL p⟩ aF R oS a bW e6 iq→tb p bW c9 cy→a8 N ⟨W,hU gL c9⟩ aF R oS a cy (pI bW cy c9 e6) iq:=fun {p bW c9 cy oS e6 iq} aS mK ao g=>
  ao.grow g (fun b o ar=>by
    have:=aS
    rw[Cq]at this
    have h2:=this b o ar
    exact⟨by omega,h2.2⟩) fun k o ad=>by have:=FY k o ad;exact⟨tI p aS k (by omega),tI c9 mK k (by omega)⟩
 refine(Ol (b9 cap Bp o6 rd Ib (w.heap.size+1) M J Jx h.dd UA.cJ ca cj ?_ ?_ ?_ ?_)).mono ?_
 ·rw[l6]
  exact⟨⟨_,rd,β,ag1,(ab1 gL).symm▸UA.only ws,bT.refl _⟩,ag3,by rw[Cq];intro b o ar;cases ar⟩
 ·rw[l6]
  rintro k p m bW c9 eB cy ⟨⟨oS,e6,iq,hi,ao,hq⟩,aB,jr⟩ g hle aeF hold Ic
  have bp:=(Array.getElem?_eq_some_iff.1 aB).1
  have xV:=UB _ _ _ _ jr g bp
  refine⟨⟨oS,_,iq,hi,UC jr xV ao g,fun aL v e=> ?_⟩,(g.block _ bp (tI p jr _ (by omega))).trans aB,xV⟩
  unfold pI
  split
  ·rename_i bp;exact hq aL v (hold aL v e bp)
  ·rw[if_pos (by rw[Ic aL v e];rfl)];exact aeF aL v e
 ·rw[ym]
  rintro p bW c9 cy ⟨e,c,he,⟨oS,e6,iq,aZ,ao⟩,aB,jr⟩ g
  have bp:=(Array.getElem?_eq_some_iff.1 aB).1
  have xV:=UB _ _ _ _ jr g bp
  exact⟨e,c,he,⟨oS,_,iq,aZ,UC jr xV ao g⟩,(g.block _ bp (tI p jr _ (by omega))).trans aB,xV⟩
 ·
  rw[l6,ym]
  rintro k p m bW x vs Ie ah ⟨⟨oS,e6,iq,hi,ao,hq⟩,aB,jr⟩ cL n
  obtain⟨Cr,ad5⟩:=adx k x oS Ie ah hi
  have hs:vs.size=ps.size:=by
   have:=qI cL
   simp only[Array.length_toList]at this
   have h2:=Cr
   simp only[Array.length_toList]at h2
   omega
  have hy:=run_yield (P:=P) (args:=vs) aB (by rw[nJ];exact hs)
  rw[nJ]at hy
  refine⟨fn,_,jO,body,hy,roundIn_of_wpIn (F:=gb none) trivial ?_⟩
  have bp:=(Array.getElem?_eq_some_iff.1 aB).1
  have ag6:hU gL p (w.heap.size+1)=none:=by
   rw[AH (tI p jr _ (by omega))]
   cases e:gL (w.heap.size+1)with
   |none=>rfl
   |some o=>have:=FY _ o e;omega
  have iI:a8 N ⟨W,jq (hU gL p) (w.heap.size+1) (.loop (rec .ready none))⟩ aF R oS a bW e6 iq:=ao.xU fun j o az=>by
   simp only[jq]at az
   split at az
   ·rename_i e
    subst e
    simp only[Option.some.injEq]at az;subst az
    exact⟨.inl (pk _),aB⟩
   ·exact ao.c4 j o az
  obtain⟨ag7,gH⟩:=M9 (ps:=ps.toList) iI.adv (cL.mono hq _ _) aeE Cr
  have b5:∀d∈ws,(fun t=> !ws.contains t) d=false:=fun d aC=>by simp[aC]
  have gm:=gH (fun t=> !ws.contains t) (fun t=>a.tmps.getD t undef) (fun p aS=>b5 p (by rw[Co];simp[aS])) (fun t _=>rfl)
  have SG:=cE.mono ao.dd
  have tv:(ps.zip vs).foldl (fun(t:Array Value) (y:Tmp×Value)=>t.setIfInBounds y.1 y.2) a.tmps=(ps.toList.zip vs.toList).foldl (fun t y=>t.setIfInBounds y.1 y.2) a.tmps:=by
   rw[←Array.foldl_toList,Array.toList_zip]
  have aeG:(ps.zip vs).foldl (fun(t:Array Value) (x:Tmp×Value)=>match x with|(p,v)=>t.setIfInBounds p v) a.tmps=(ps.toList.zip vs.toList).foldl (fun t y=>t.setIfInBounds y.1 y.2) a.tmps:=tv
  have Gh:=E9 (r:=some (w.heap.size+1)) (n:=n) (ds:=[]) (T:=fun t=> !ws.contains t) (av:=fun t=>a.tmps.getD t undef) hm SG bR jO a2 (fun d aC=>b5 d (by rw[Co];simp[aC])) gm ag7 ad5
  rw[pr]at Gh
  refine wpIn_mono (Q:=_) (by rw[←aeG]at Gh;exact Gh) fun e eR cy he=> ?_
  obtain⟨eX,rfl,aeH,he⟩:=he
  rw[pr]
  cases e with
  |normal=>
   obtain⟨alB,alC,alD,mO,yn⟩:=he
   have eH:=(yn.c4 (w.heap.size+1) (.loop (rec .ready none)) (by simp[jq])).2
   refine⟨_,run_beginRound eH (by rw[nJ]),?_⟩
   have ag8:=yn.Bu eH (pk _) (pk { rec .ready none with state:= .busy }) (by omega)
   have p7:=E9 (r:=some (w.heap.size+1)) (n:=n) (ds:=[]) (T:=fun t=> !ws.contains t) (av:=fun t=>a.tmps.getD t undef) hm SG bR body ar (fun d aC=>b5 d (by rw[Co];simp[aC])) aeH ag8 mO
   rw[pr]at p7
   refine wpIn_mono p7 fun e l7 lb he=> ?_
   obtain⟨n6,rfl,aeI,he⟩:=he
   rw[pr]
   have fin:∀{K:St→Prop},hb N ⟨W,jq (jq (hU gL p) (w.heap.size+1) (.loop (rec .ready none))) (w.heap.size+1) (.loop { rec .ready none with state:= .busy })⟩ e6 R K n6 lb→∀(jump:Option Code),
    (Instr.endRound (w.heap.size+1) jump).run P lb= .ok (.bool jump.isNone) (lb.putObj (w.heap.size+1) (.loop (rec (if jump.isNone then .ready else .done) jump)))∧
    bT m (lb.putObj (w.heap.size+1) (.loop (rec (if jump.isNone then .ready else .done) jump))).cell?∧
    (lb.putObj (w.heap.size+1) (.loop (rec (if jump.isNone then .ready else .done) jump))).heap[w.heap.size+1]? =some (.loop (rec (if jump.isNone then .ready else .done) jump))∧
    ∃σ' rd' β',K σ'∧a8 N ⟨W,hU gL p⟩ aF R (σ'.only ws) a (lb.putObj (w.heap.size+1) (.loop (rec (if jump.isNone then .ready else .done) jump))) rd' β'∧bT m rd':=by
    rintro K ⟨σ',rd',β',bV,Ig⟩ jump
    have Ih:=(Ig.c4 (w.heap.size+1) (.loop { rec .ready none with state:= .busy }) (by simp[jq])).2
    have aeJ:=(Array.getElem?_eq_some_iff.1 Ih).1
    have rJ:=run_endRound (P:=P) jump Ih
    have ag9:({ ({ rec .ready none with state:= .busy } :Loop)with state:=if jump.isNone then .ready else .done,pending:=jump } :Loop)=rec (if jump.isNone then .ready else .done) jump:=by rw[nJ]
    rw[ag9]at rJ
    have Ii:=Ig.Bu Ih (pk _) (pk (rec (if jump.isNone then .ready else .done) jump)) (by omega)
    have rK:bT m rd':=fun aL v e=>Ig.dd aL v (hq aL v e)
    have aha:a8 N ⟨W,hU gL p⟩ e6 R σ' n6 (lb.putObj (w.heap.size+1) (.loop (rec (if jump.isNone then .ready else .done) jump))) rd' β':=Ii.xU fun j o az=>by
     by_cases vC:j=w.heap.size+1
     ·exfalso
      rw[vC,ag6]at az;cases az
     ·exact Ii.c4 j o (by simp only[jq,if_neg vC];exact az)
    refine⟨rJ,fun aL v e=>Ii.cJ aL v (rK aL v e),World.putObj_heap_same aeJ,σ',rd',β',bV,?_,rK⟩
    exact(aha.adw ao.dd (fun aL v e aB=>ao.aF aL v e aB)).back ao.size ao.defers aeI
   cases e with
   |normal=>
    obtain⟨rJ,rK,yo,σ',rd',β',bV,rL,Gi⟩:=fin he none
    exact⟨_,_,rJ,rK,fun b o ar=>(rL.c4 b o (xg ar)).2,.inl ⟨rfl,⟨⟨σ'.only ws,rd',β',bV.1,rL,Gi⟩,yo,jr⟩,bV.2⟩⟩
   |ret=>
    obtain⟨rJ,rK,yo,σ',rd',β',bV,rL,Gi⟩:=fin he (some .ret)
    exact⟨_,_,rJ,rK,fun b o ar=>(rL.c4 b o (xg ar)).2,.inr ⟨rfl,.ret,.ret,rfl,⟨σ'.only ws,rd',β',bV,rL⟩,yo,jr⟩⟩
   |exit j=>
    obtain⟨rJ,rK,yo,σ',rd',β',bV,rL,Gi⟩:=fin he (some (.exit j))
    exact⟨_,_,rJ,rK,fun b o ar=>(rL.c4 b o (xg ar)).2,.inr ⟨rfl,.exit j,.exit j,rfl,⟨σ'.only ws,rd',β',bV,rL⟩,yo,jr⟩⟩
   |_=>exact he.elim
  |exit j=>obtain⟨_,_,_,aZ,_⟩:=he;exact aZ.elim
  |ret=>obtain⟨_,_,_,aZ,_⟩:=he;exact aZ.elim
  |_=>exact he.elim
 ·
  rintro e cy ⟨v,rfl,SH⟩
  have FZ:({ eT a (Ds.map iC)with defers:=[iC w.heap.size]++(eT a (Ds.map iC)).defers } :Act)=eT a ((w.heap.size::Ds).map iC):=by
   simp[eT,h.defers]
  have Bw:qY gL (w.heap.size::Ds):=by
   refine⟨List.nodup_cons.2 ⟨fun Bs=> ?_,fS.1⟩,fun D ky=> ?_⟩
   ·have:=(Array.getElem?_eq_some_iff.1 (h.c4 _ _ (fS.2 _ Bs)).2).1
    omega
   ·rw[Bv]
    simp only[jq]
    split
    ·rfl
    ·rename_i dX
     rcases List.mem_cons.1 ky with e|e
     ·exact absurd e dX
     ·exact fS.2 D e
  have Bx:∀D∈w.heap.size::Ds,W.heap.size≤D:=fun D ky=>by
   rcases List.mem_cons.1 ky with rfl|e
   ·exact ag5
   ·exact gK D e
  have R0:∀{o:Obj} {σ':St} {rd':Mem} {β':bC} {o':Obj},a8 N ⟨W,gL⟩ aF R σ' a cy rd' β'→cy.heap[w.heap.size+1]? =some o→qT o→qT o'→a8 N ⟨W,gL⟩ aF R σ' a (cy.putObj (w.heap.size+1) o') rd' β':=fun {o σ' rd' β' o'} ao aB aH rA=>by
   have ct:=ao.Bu aB aH rA (by omega)
   refine ct.xU fun j x az=> ?_
   by_cases vC:j=w.heap.size+1
   ·exfalso
    have Cs:=az
    rw[Bv]at Cs
    simp only[jq]at Cs
    rw[if_neg (by omega)]at Cs
    have:=(Array.getElem?_eq_some_iff.1 (h.c4 j x Cs).2).1
    omega
   ·exact ct.c4 j x (by simp only[jq,if_neg vC];exact az)
  have ad6:∀{p:Nat→Option Obj} {σ':St} {rd':Mem} {β':bC},o7 p→a8 N ⟨W,hU gL p⟩ aF R σ' a cy rd' β'→a8 N ⟨W,gL⟩ aF R σ' a cy rd' β':=fun {p σ' rd' β'} jr ao=>
   ao.xU fun j x az=>ao.c4 j x (by show hU gL p j=some x;rw[AH (tI p jr j (by have:=FY j x az;omega))];exact az)
  rw[l6,ym]at SH
  rcases SH with ⟨k,p,m,FW,⟨σ',rd',β',hi,ao,_⟩,aB,jr⟩|⟨p,e,c,he,⟨σ',rd',β',aZ,ao⟩,aB,jr⟩<;>have ao:=ad6 jr ao
  ·refine⟨none,_,by have:=run_endLoop (P:=P) aB (by rw[nJ];simp);rw[nJ]at this;exact this,?_⟩
   have Ij:=R0 (o':= .loop { rec .ready none with state:= .exhausted }) ao aB (pk _) (pk _)
   rw[nJ]at Ij
   obtain⟨m,UD⟩:=ad3 k σ' FW hi
   cases m with
   |none=>exact⟨w.heap.size::Ds,gL,a,FZ,Bw,Bx,σ',rd',β',UD,Ij⟩
   |some i=>
    obtain⟨⟨b,e1,lT⟩,aZ⟩:=UD
    exact⟨w.heap.size::Ds,gL,a,FZ,Bw,Bx,_,_,_,aZ,Ij.gP e1 lT⟩
  ·refine⟨some c,_,by have:=run_endLoop (P:=P) aB (by rw[nJ];simp);rw[nJ]at this;exact this,?_⟩
   have Ik:=R0 (o':= .loop { rec .done (some c)with state:= .exhausted }) ao aB (pk _) (pk _)
   rw[nJ]at Ik
   rw[FZ]
   cases e with
   |normal=>exact he.elim
   |exit j=>
    simp only at he;subst he
    exact wpIn_exit ⟨w.heap.size::Ds,gL,a,rfl,Bw,Bx,σ',rd',β',aZ,Ik⟩
   |ret=>
    simp only at he;subst he
    exact wpIn_ret ⟨w.heap.size::Ds,gL,a,rfl,Bw,Bx,σ',rd',β',aZ,Ik⟩
end
end RV
namespace RV
open Go Go.RowKit
section
variable {N:Nat} {aK:dU} {aF:Mem} {R:bC} {σ σ':St} {a:Act} {w w':World} {rd rd':Mem} {β β':bC} {P:Program} {Γ:Env} {n:Nat}
theorem xR.toX {W:World} {ot:Nat→Option Obj} {Q:eg→St→Prop} {T:Nat→Bool} {av:Nat→Value} {Ds:List Nat} (fS:qY ot Ds) (gK:∀D∈Ds,W.heap.size≤D) {e:Exit} {b2:Act} {w':World} (h:xR N ⟨W,ot⟩ aF R (Ds.map iC) T av Q e b2 w'):vn N W aF R Q e b2 w':=by
 obtain⟨eb,rfl,_,h⟩:=h
 exact⟨Ds,ot,eb,rfl,fS,gK,h⟩
theorem abl (h:a8 N aK aF R σ a w rd β) {o:Oper} {e:TypeId} {i j:Nat} (bu:o.op= .alloc e) (kc:o.dst=some i) (hi:i<N) {inf:TypeInfo} (lG:P.info? e=some inf) (bg:inf.zero=some (.slice none 0 0)) {ek:dL} {K:St→Prop}
 (ad:K (((σ.fresh j ⟨false,false,lj ek⟩).fresh i ⟨false,false,.cells [.own j 0 0]⟩).put (some i) (.box i 0))):eL P N aK aF R o a w K:=by
 have aH:(lj ek).isNil=true:=by cases ek<;>rfl
 have bP:=pn σ j ⟨false,false,lj ek⟩ (rd:=rd) (β:=β)
 have h1:=h.PZ (i:=j) (b:=⟨false,false,lj ek⟩) rfl aH (bP.rep none) bP.af bP.aw
 have ca:=pn (σ.fresh j ⟨false,false,lj ek⟩) i ⟨false,false,.cells [.own j 0 0]⟩ (rd:=rd) (β:=fun k=>if k=j then none else β k)
 have h2:=E4 h1 ca (arr:= #[.slice none 0 0]) (e:=e) (by
  simp only[bN,aP]
  exact⟨_,_,rfl,⟨none,0,rfl,Nat.le_refl _,.inl ⟨trivial,rfl⟩⟩,rfl⟩)
 have aC:gB N o.dst=true:=by rw[kc];simp[gB,hi]
 refine eL.value (u:= .pointer (some (cellAt w.heap.size 0))) ?_ h2 (v:= .box i 0) ?_ aC (by rw[kc];exact ad)
 ·simp only[execOp,bu,Instr.alloc,Sem.run_bind,wY lG bg,Result.andThen_ok,newVar,newRow,run_newObj,Sem.run_pure]
  rfl
 ·simp only[aP]
  exact⟨ho w _ 1,nc _ _ _,rfl⟩
theorem aaM {M0:Nat} {ops:Array Oper} {i:Nat} {ek:dL} (h:Be P M0 ops=some (i,ek)):∃o e inf,ops.toList=[o]∧o.op= .alloc e∧o.dst=some i∧o.guard=none∧i<M0∧P.info? e=some inf∧inf.zero=some (.slice none 0 0):=by
 unfold Be at h
 split at h
 ·rename_i o bh
  split at h
  ·rename_i e d h1 h2 al
   split at h
   ·rename_i t hu bg
    split at h
    ·rename_i hi
     obtain⟨Ct,_,he⟩:=map_some h
     simp only[Prod.mk.injEq]at he
     obtain⟨rfl,rfl⟩:=he
     cases lG:P.info? e with
     |none=>rw[lG]at bg;cases bg
     |some inf=>rw[lG]at bg;exact⟨o,e,inf,bh,h1,h2,al,hi,lG,bg⟩
    ·cases h
   ·cases h
  ·cases h
 ·cases h
theorem aaN {S:Nat→Option kx} {M0:Nat} (bR:M0≤N) {W:World} {ot:Nat→Option Obj} {id:Nat} {ops:Array Oper} {i j:Nat} {ek:dL} (Cu:Be P M0 ops=some (i,ek)) {Q:eg→St→Prop} {Ds:List Nat}
 (h:a8 N ⟨W,ot⟩ aF R σ a w rd β) (fS:qY ot Ds) (gK:∀D∈Ds,W.heap.size≤D) (ad:g7 Γ S (.Bt i j ek) Q σ):(Code.region id ops false).wpIn (gb none) n P (vn N W aF R Q) (eT a (Ds.map iC)) w:=by
 obtain⟨o,e,inf,bh,bu,kc,bb,hi,lG,bg⟩:=aaM Cu
 simp only[g7]at ad
 have eN:ops.size=1:=by rw[←Array.length_toList,bh];rfl
 have ahb:ops[0]? =some o:=by rw[←Array.getElem?_toList,bh];rfl
 refine wpIn_region ?_
 rw[eN]
 show wpOpsIn (gb none) n P ops (vn N W aF R Q) [0] _ _
 simp only[wpOpsIn,ahb]
 have hw:Region.wanted o (yielded ops (eT a (Ds.map iC)).tmps)=true:=by simp[Region.wanted,bb]
 rw[if_pos hw]
 have Il:=abl (j:=j) (ek:=ek) h bu kc (Nat.lt_of_lt_of_le hi bR) lG bg ad (fun b2 w'=>hb N ⟨W,ot⟩ aF R (Q .normal) b2 w') (fun _ _ _=>False) fun σ' b2 w' rd' β' bY ct=>⟨σ',rd',β',bY,ct⟩
 exact AG (r:=none) (n:=n) (ds:=Ds.map iC) (fun c e=>by rw[bu]at e;cases e) (by rintro⟨_,_,h⟩;exact h) Il (fun b2 w' v ms e dT=>⟨Ds,ot,b2,rfl,fS,gK,dT⟩) (fun _ _ h=>h.elim)
theorem acM (hm:P.follows .mixedOrders=true) (cE:aO P aF Γ) {S:Nat→Option kx} (jy:vo P aF S) {M0:Nat} (bR:M0≤N) {W:World} :∀(c:Code) {cP:jz} {Q:eg→St→Prop} {σ:St} {a:Act} {w:World} {rd:Mem} {β:bC} {ot:Nat→Option Obj} {Ds:List Nat},oy P M0 c=some cP→
 a8 N ⟨W,ot⟩ aF R σ a w rd β→qY ot Ds→(∀D∈Ds,W.heap.size≤D)→g7 Γ S cP Q σ→c.wpIn (gb none) n P (vn N W aF R Q) (eT a (Ds.map iC)) w:=by
 intro c
 have plain:∀{c:Code} {lc:au} {Q:eg→St→Prop} {σ:St} {a:Act} {w:World} {rd:Mem} {β:bC} {ot:Nat→Option Obj} {Ds:List Nat},dv P M0 c=some lc→
  a8 N ⟨W,ot⟩ aF R σ a w rd β→qY ot Ds→(∀D∈Ds,W.heap.size≤D)→g7 Γ S (.c lc) Q σ→c.wpIn (gb none) n P (vn N W aF R Q) (eT a (Ds.map iC)) w:=by
  intro c lc Q σ a w rd β ot Ds ae h fS gK ad
  simp only[g7]at ad
  exact wpIn_mono (E9 (T:=fun _=>false) (av:=fun _=>undef) hm cE bR c ae (fun _ _=>rfl) (fun t ae=>by cases ae) h ad) fun e b2 w' he=>he.toX fS gK
 induction c with
 |seq x y jo lR=>
  intro cP Q σ a w rd β ot Ds ae h fS gK ad
  simp only[oy]at ae
  split at ae
  ·rename_i l aB
   simp only[Option.some.injEq]at ae;subst ae
   exact plain aB h fS gK ad
  ·split at ae
   ·rename_i cP ga ah hy
    simp only[Option.some.injEq]at ae;subst ae
    simp only[g7]at ad
    refine wpIn_seq (wpIn_mono (jo ah h fS gK ad) fun e b2 w' he=> ?_)
    obtain⟨tK,lU,eb,rfl,re,rf,he⟩:=he
    cases e with
    |normal=>obtain⟨σ',rd',β',h1,h2⟩:=he;exact lR hy h2 re rf h1
    |exit id=>exact⟨tK,lU,eb,rfl,re,rf,he⟩
    |ret=>exact⟨tK,lU,eb,rfl,re,rf,he⟩
    |_=>exact he.elim
   ·cases ae
 |block id x cm=>
  intro cP Q σ a w rd β ot Ds ae h fS gK ad
  simp only[oy]at ae
  split at ae
  ·rename_i l aB
   simp only[Option.some.injEq]at ae;subst ae
   exact plain aB h fS gK ad
  ·obtain⟨cP,ah,rfl⟩:=map_some ae
   simp only[g7]at ad
   refine wpIn_block (wpIn_mono (cm ah h fS gK ad) fun e b2 w' he=> ?_)
   obtain⟨tK,lU,eb,rfl,re,rf,he⟩:=he
   cases e with
   |normal=>exact⟨tK,lU,eb,rfl,re,rf,he⟩
   |exit j=>
    obtain⟨σ',rd',β',h1,h2⟩:=he
    simp only at h1
    unfold Exit.inBlock
    simp only
    split at h1
    ·rename_i az;rw[if_pos az];exact⟨tK,lU,eb,rfl,re,rf,σ',rd',β',h1,h2⟩
    ·rename_i az;rw[if_neg az];exact⟨tK,lU,eb,rfl,re,rf,σ',rd',β',h1,h2⟩
   |ret=>exact⟨tK,lU,eb,rfl,re,rf,he⟩
   |_=>exact he.elim
 |region id ops d=>
  intro cP Q σ a w rd β ot Ds ae h fS gK ad
  simp only[oy]at ae
  split at ae
  ·rename_i i ek Cu
   simp only[Option.some.injEq]at ae;subst ae
   cases d with
   |true=>simp at Cu
   |false=>exact aaN bR (by simpa using Cu) h fS gK ad
  ·obtain⟨l,aB,rfl⟩:=map_some ae
   exact plain aB h fS gK ad
 |rangeFunc H9 ps jO body _ _=>
  intro cP Q σ a w rd β ot Ds ae h fS gK ad
  simp only[oy]at ae
  split at ae
  ·rename_i g ck da h1 h2 al
   split at ae
   ·rename_i Ia
    simp only[Option.some.injEq]at ae;subst ae
    exact abk hm cE jy bR h1 h2 al Ia h fS gK ad
   ·cases ae
  ·cases ae
 |_=>
  intro cP Q σ a w rd β ot Ds ae h fS gK ad
  simp only[oy]at ae
  obtain⟨l,aB,rfl⟩:=map_some ae
  exact plain aB h fS gK ad
theorem LV {W:World} {fn:Func} {tmps:Array Value} {YP:Ending→World→Prop} :∀(Ds:List Nat) {ot:Nat→Option Obj} {σ:St} {a:Act} {w:World} {rd:Mem} {β:bC},qY ot Ds→(∀D∈Ds,W.heap.size≤D)→a8 N ⟨W,ot⟩ aF R σ a w rd β→
 (∀(w':World) (lU:Nat→Option Obj),a8 N ⟨W,lU⟩ aF R σ a w' rd β→∃v,(results fn tmps).run P w'= .ok v w'∧YP (.returned v) w')→LeavesInM (gb none) n P fn tmps YP (Ds.map iC) .returning w
 |[],ot,σ,a,w,rd,β,_,_,h,aq=>aq w ot h
 |D::Ds,ot,σ,a,w,rd,β,fS,gK,h,aq=>by
  have ky:=fS.2 D (by simp)
  have ar:=(h.c4 D _ ky).2
  refine⟨(fun e=>by cases e),.inl ⟨D,w.putObj D (.deferred none),rfl,run_takeDeferred ar,?_⟩⟩
  have hnd:=List.nodup_cons.1 fS.1
  refine LV (W:=W) Ds (ot:=jq ot D (.deferred none)) ⟨hnd.2,fun La Cv=> ?_⟩ (fun La Cv=>gK La (by simp[Cv])) (h.Bu ar (D5 _) (D5 _) (gK D (by simp))) aq
  simp only[jq]
  split
  ·rename_i e;subst e;exact absurd Cv hnd.1
  ·exact fS.2 La (by simp[Cv])
theorem QZ (hm:P.follows .mixedOrders=true) {B:Mem} (cE:aO P B Γ) {S:Nat→Option kx} (jy:vo P B S) {f:Nat} {fn:Func} (gJ:P.funcs[f]? =some fn) (nT:(fn.name== "runtime.NumGoroutine")=false) {cP:jz} {rs:List bl} (hf:uQ P f=some (cP,rs)) {C:bq}
 (h:∀ds,C.pre ds→vm Γ S cP rs ds fun d=>d=C.res ds) (bh:C.own=false:=by rfl):my P B f C:=by
 simp only[uQ,gJ]at hf
 split at hf
 ·rename_i c ao
  split at hf
  ·rename_i l lS ae e7
   simp only[Option.some.injEq,Prod.mk.injEq]at hf
   obtain⟨rfl,rfl⟩:=hf
   refine⟨⟨fn,gJ,nT,by rw[ao];rfl⟩,fun ds aS w rd vs aN lH gF=> ?_⟩
   have ad:=h ds aS
   unfold vm at ad
   refine(callsIn_wide (n:=0)).1 (callsIn_of_wp_marks (F:=gb none) gJ ao trivial ?_ rfl)
   have vy:w.base.heap.size=w.heap.size:=rfl
   have nB:=z7 (N:=(vs++Array.replicate (fn.ntmps - vs.size) undef).size) lH gF (fn.ntmps - vs.size) rfl
   have ahc:vo P rd S:=fun f C e=>⟨(jy f C e).1,fun ds aS w e6 da l M J Jx ar=>(jy f C e).2 ds aS w e6 da l M J Jx (aN.trans ar)⟩
   have ah:=acM (n:=0) (Ds:=[]) hm (cE.mono aN) ahc (M0:=fn.ntmps) (by simp;omega) c ae (show a8 _ ⟨w,fun _=>none⟩ rd _ _ _ w rd _ from nB) ⟨List.nodup_nil,fun D ky=>by cases ky⟩ (fun D ky=>by cases ky) ad
   rw[List.map_nil,pr]at ah
   refine wpIn_mono ah ?_
   rintro e a w' ⟨Ds,ot,eb,rfl,fS,gK,he⟩
   have done:hb (vs++Array.replicate (fn.ntmps - vs.size) undef).size ⟨w,ot⟩ rd (fun _=>none) (fun σ=>iD lS σ fun d=>d=C.res ds) eb w'→
    LeavesInM (gb none) 0 P fn (eT eb (Ds.map iC)).tmps (fun e w'=>∃v,e= .returned v∧Below w.heap.size w w'∧ra C rd w w' (C.res ds) v) (eT eb (Ds.map iC)).defers .returning w':=by
    rintro⟨σ,rd',β,aq,cT⟩
    have hv:(eT eb (Ds.map iC)).defers=Ds.map iC:=by simp[eT,cT.defers]
    rw[hv]
    refine LV (W:=w) Ds fS gK cT fun w' lU cT=> ?_
    show∃v,(results fn eb.tmps).run P w'= .ok v w'∧_
    unfold iD at aq
    split at aq
    ·rename_i iK aB
     obtain⟨xQ,aq⟩:=aq
     split at aq
     ·rename_i mH fX
      obtain⟨us,br,bw⟩:=uz cT e7 aB
      have ry:=toDs_rep cT (S:=hn β iK) iK us mH fX bw fun i r aL hi dJ eI=>⟨i,r,hi,dJ,eI⟩
      have hle:bT (plus w' (hn β iK) rd') (hT w w' rd):=fun aL v e=>by
       unfold hT
       split
       ·rename_i bp
        by_cases ay:hn β iK aL
        ·exfalso
         obtain⟨i,r,hi,dJ,a2⟩:=ay
         obtain⟨b,ah,_,_,fQ,_⟩:=cT.box i r dJ
         have h1:w.heap.size≤r.bS:=(fQ (qP iK xQ i b hi ah)).1
         have:=a2.1
         omega
        ·rw[oi ay]at e
         exact cT.aF aL v e bp
       ·exact oo cT.cJ aL v e
      refine⟨_,?_,_,rfl,cT.cw.toBelow,fun _=>aq▸EO (bI.mono hle _ _ ry),fun ao=>by rw[bh]at ao;cases ao⟩
      have nH:=wF (P:=P) (w:=w') fn.results.toList br
      unfold results
      rw[Array.mapM_eq_mapM_toList]
      simp only[Sem.run_bind,Sem.run_map]
      exact congrArg (fun r:Result (List Value)=>(r.andThen fun a w'=>Result.ok a.toArray w').andThen fun(a:Array Value) w'=>Sem.run P (pure (if h:a.size=1 then a[0]else Value.tuple a)) w') nH
     ·exact aq.elim
    ·exact aq.elim
   cases e with
   |normal=>exact done he
   |ret=>exact done he
   |exit id=>obtain⟨_,_,_,h1,_⟩:=he;exact h1.elim
   |_=>exact he.elim
  ·cases hf
 ·cases hf
end
def St.keeps (σ:St) (i:Nat):Bool:=match σ.aw i with
 |some b=> !b.cd && b.c.pure
 |none=>false
def St.still (σ:St):St:=⟨fun t=>if (σ.af t).ids.all σ.keeps=true then σ.af t else .any,fun i=>if σ.keeps i=true then (σ.aw i).map (fun b=>⟨b.cd,true,b.c⟩)else none⟩
structure e3 where
 k:Nat
 b:Bool
def yp (E:Nat→Option (List D)) (M:Nat) (dst:Option Nat) (y:e3) (σ:St) (K:e3→St→Prop) (vs:List ag):Prop:=
 y.b=true∧ag.fO vs=true∧match toDs σ vs with
   |some ds=>E y.k=some ds∧(y.k+1<M→K ⟨y.k+1,true⟩ (σ.still.put dst (.d (.bool true))))∧K ⟨y.k,false⟩ (σ.still.put dst (.d (.bool false)))
   |none=>False
def vH (σ:St):bo→Option (Nat×List bk)
 | .gj x as=>match σ.aT x with
   | .c6 l=>some (l,as)
   |_=>none
 |_=>none
def gC (Γ:Env) (E:Nat→Option (List D)) (M l:Nat) (K:e3→St→Prop):List bE→e3→St→Prop
 |[],y,σ=>K y σ
 |o::r,y,σ=>match vH σ o.op with
  |some (o4,as)=>o4=l∧o.guard=none∧yp E M o.dst y σ (gC Γ E M l K r) (ch σ as)
  |none=>guarded σ o.guard (cQ Γ o.dst σ (gC Γ E M l K r y) o.op) (gC Γ E M l K r y (σ.put o.dst .c1))
def eP (Γ:Env) (E:Nat→Option (List D)) (M l:Nat):au→(eg→e3→St→Prop)→e3→St→Prop
 | .skip,Q,y,σ=>Q .normal y σ
 | .dc ops,Q,y,σ=>gC Γ E M l (Q .normal) ops y σ
 | .jh pre oO,Q,y,σ=>cG Γ (fA Γ (Q .normal y) oO) pre (je σ pre)
 | .seq a b,Q,y,σ=>eP Γ E M l a (fun e y s=>match e with| .normal=>eP Γ E M l b Q y s|e=>Q e y s) y σ
 | .cond c a b,Q,y,σ=>match σ.aT c with
   | .d (.bool t)=>(t=true→eP Γ E M l a Q y σ)∧(t=false→eP Γ E M l b Q y σ)
   |_=>False
 | .block id a,Q,y,σ=>eP Γ E M l a (fun e y s=>match e with| .exit j=>if j=id then Q .normal y s else Q (.exit j) y s|e=>Q e y s) y σ
 | .loop a,Q,y,σ=>∃(I:e3→St→Prop) (dN:e3→St→Nat),I y σ∧∀z s,I z s→eP Γ E M l a (fun e gv df=>match e with| .normal=>I gv df∧dN gv df<dN z s|e=>Q e gv df) z s
 | .exit id,Q,y,σ=>Q (.exit id) y σ
 | .ret,Q,y,σ=>Q .ret y σ
def nU (l:Nat) (ds:List D):St:=⟨fun t=>match t with|0=> .c6 l|t+1=>match ds[t]? with|some d=>cX d|none=> .c1,fun _=>none⟩
def vp (Γ:Env) (E:Nat→Option (List D)) (M l:Nat) (lc:au) (ds:List D):Prop:=
 eP Γ E M l lc (fun e y _=>(match e with| .exit _=>False|_=>True)∧(y.b=true→E y.k=none)) ⟨0,true⟩ (nU l ds)
end RV
namespace RV
open Go Go.RowKit
section
variable {N:Nat} {aK:dU} {aF jP:Mem} {R:bC} {σ σ':St} {a:Act} {w w':World} {rd rd':Mem} {β β':bC} {P:Program} {Γ:Env} {n:Nat} {ops:Array Oper}
mutual
theorem Q0:∀v:ag,v.c7 (fun i=>i)=v
 | .d _=>rfl
 | .agg cs=>by simp only[ag.c7,AJ cs]
 | .box _ _=>rfl
 | .own _ _ _=>rfl
 | .dr _ _ _=>rfl
 | .c0 _ x y=>by simp only[ag.c7,AJ x,AJ y]
 | .c6 _=>rfl
 | .c1=>rfl
 | .any=>rfl
theorem AJ:∀vs:List ag,ag.e5 (fun i=>i) vs=vs
 |[]=>rfl
 |v::vs=>by simp only[ag.e5,Q0 v,AJ vs]
end
def pJ (σ:St) (β:bC):bC:=fun i=>if σ.keeps i=true then (β i).map cY.part else none
theorem wO {i:Nat} {r':cY} (h:pJ σ β i=some r'):σ.keeps i=true∧∃r,β i=some r∧r'=r.part:=by
 unfold pJ at h
 split at h
 ·rename_i ad
  cases e:β i with
  |none=>rw[e]at h;cases h
  |some r=>rw[e]at h;simp only[Option.map_some,Option.some.injEq]at h;exact⟨ad,r,rfl,h.symm⟩
 ·cases h
theorem zW {i:Nat} (h:σ.keeps i=true):∃b,σ.aw i=some b∧b.cd=false∧b.c.pure=true:=by
 unfold St.keeps at h
 split at h
 ·rename_i b ar
  simp only[Bool.and_eq_true,Bool.not_eq_true']at h
  exact⟨b,ar,h.1,h.2⟩
 ·cases h
theorem My (h:a8 N aK aF R σ a w rd β) {cy:World} (hm:bT rd cy.cell?) (ad:∀i r,σ.keeps i=true→β i=some r→cy.heap[r.bS]? =w.heap[r.bS]?):a8 N cy.base rd (pJ σ β) σ.still a cy rd (pJ σ β)where
 size:=h.size
 defers:=h.defers
 cw:=hl.refl _ _
 c4:=fun k o ad=>by cases ad
 cJ:=hm
 dd:=bT.refl _
 aF:=fun _ _ e _=>e
 dV:=fun i r b hi ah bg aL a2=>by
  obtain⟨gH,l5,h0,rfl⟩:=wO hi
  obtain⟨cR,gR,hf,_⟩:=zW gH
  exact h.dV i l5 cR h0 gR hf aL (cY.sG a2)
 dW:=fun t=>by
  simp only[St.still]
  split
  ·rename_i fB
   have:=OZ (g:=fun i=>i) (β':=pJ σ β) _ _ (fun i hi r aq=> ?_) (h.dW t)
   ·rwa [Q0]at this
   ·have gH:=List.all_eq_true.1 fB i (O0 _ i hi)
    exact⟨r.part,by simp only[pJ,if_pos gH,aq,Option.map_some],rfl,rfl,rfl,rfl⟩
  ·simp only[aP]
 box:=fun i r hi=>by
  obtain⟨gH,l5,h0,rfl⟩:=wO hi
  obtain⟨cR,gR,hf,iJ⟩:=zW gH
  obtain⟨b,ah,ao,aS,br,bw⟩:=h.box i l5 h0
  rw[gR]at ah;simp only[Option.some.injEq]at ah;subst ah
  have mL:=ad i l5 gH h0
  refine⟨⟨cR.cd,true,cR.c⟩,by simp only[St.still,if_pos gH,gR,Option.map_some],?_,?_,(fun e=>by cases e),fun _=>⟨hi,rfl⟩⟩
  ·have yn:ey cy rd (pJ σ β) l5 cR.c:=ao.mono (bT.refl _) (fun j _ _=>na mL) fun cs e v aA u H=>by
    rw[e]at iJ
    exact aP.congr v u (fun j az=>by
     have h1:=uF cs iJ j
     have h2:ag.cC j cs=true:=Ah aA az
     rw[h1]at h2;cases h2) H
   cases e:cR.c with
   |_=>rw[e]at yn;exact yn
  ·obtain⟨arr,t,cd,ea,ft,fY,_⟩:=aS.sE mL
   exact⟨arr,t,cd,ea,ft,fY,fun e=>by cases e⟩
 dP:=fun i b ar hi=>by
  simp only[St.still]at ar
  split at ar
  ·rename_i gH
   obtain⟨cR,gR,_,_⟩:=zW gH
   rw[gR]at ar
   simp only[Option.map_some,Option.some.injEq]at ar
   subst ar
   have aH:β i=none:=by
    cases e:β i with
    |none=>rfl
    |some r=>simp only[pJ,if_pos gH,e,Option.map_some]at hi;cases hi
   exact⟨fun _=>hi,(h.dP i cR gR aH).2⟩
  ·cases ar
 dS:=fun i j aD ha UE hi az aL a2 ar=>by
  obtain⟨_,bP,h1,rfl⟩:=wO hi
  obtain⟨_,ca,h2,rfl⟩:=wO az
  exact h.dS i j bP ca UE h1 h2 aL (cY.sG a2) (cY.sG ar)
noncomputable def mA (σ:St) (β:bC) (w:World):Nat→Option Obj:=fun k=>open Classical in if∃i r,σ.keeps i=true∧β i=some r∧r.bS=k then w.heap[k]? else none
def Bf (R:bC) (p:Nat→Option Obj) (w:World):Prop:=∀i r,R i=some r→p r.bS≠none∧r.off=0∧∃arr t,w.heap[r.bS]? =some (.cells arr t (0,0))∧arr.size=r.len
def Lb (N M:Nat) (aF:Mem) (J:Nat→(Nat→Option Obj)→Mem→World→Prop) (Jx:(Nat→Option Obj)→World→Prop) (y:e3) (σ:St) (a:Act) (w:World):Prop:=
 ∃(W:World) (jP rd:Mem) (β R:bC) (p:Nat→Option Obj),a8 N W.base jP R σ a w rd β∧bT aF jP∧Bf R p W∧(y.b=true→J y.k p jP W∧y.k<M)∧(y.b=false→Jx p W)
def wc (N M:Nat) (aF:Mem) (J:Nat→(Nat→Option Obj)→Mem→World→Prop) (Jx:(Nat→Option Obj)→World→Prop) (K:e3→St→Prop) (a:Act) (w:World):Prop:=
 ∃(y:e3) (σ:St),K y σ∧Lb N M aF J Jx y σ a w
def aeK (N M:Nat) (aF:Mem) (J:Nat→(Nat→Option Obj)→Mem→World→Prop) (Jx:(Nat→Option Obj)→World→Prop) (Q:eg→e3→St→Prop):Exit→Act→World→Prop
 | .normal,a,w=>wc N M aF J Jx (Q .normal) a w
 | .exit id,a,w=>wc N M aF J Jx (Q (.exit id)) a w
 | .ret,a,w=>wc N M aF J Jx (Q .ret) a w
 |_,_,_=>False
theorem Aq {W:World} {jP:Mem} {p:Nat→Option Obj} (h:a8 N W.base jP R σ a w rd β) (h5:Bf R p W) {i:Nat} {r:cY} (hi:β i=some r):r.off=0∧∃arr t,w.heap[r.bS]? =some (.cells arr t (0,0))∧arr.size=r.len:=by
 obtain⟨b,ah,_,aS,h1,h2⟩:=h.box i r hi
 cases he:b.ext with
 |false=>
  obtain⟨arr,t,cd,ea,_,_,la⟩:=aS
  obtain⟨e9,gY,rfl⟩:=la (h1 he).2
  exact⟨e9,arr,t,ea,gY⟩
 |true=>
  obtain⟨_,f2,arr,t,f3,f4⟩:=h5 i r (h2 he).1
  refine⟨f2,?_⟩
  have bp:r.bS<W.base.heap.size:=(Array.getElem?_eq_some_iff.1 f3).1
  rcases h.cw.block _ bp with e|⟨c,n4,cd,c',a1,a6,cU,_⟩
  ·exact⟨arr,t,e.trans f3,f4⟩
  ·have f3':W.base.heap[r.bS]? =some (.cells arr t (0,0)):=f3
   rw[f3']at a1
   simp only[Option.some.injEq,Obj.cells.injEq]at a1
   obtain⟨rfl,rfl,rfl⟩:=a1
   exact⟨c',t,a6,cU.trans f4⟩
theorem Ar {W:World} {jP:Mem} {p:Nat→Option Obj} (h:a8 N W.base jP R σ a w rd β) (h5:Bf R p W):
 tb p W (mA σ β w) w∧∀aL v,rd aL=some v→mA σ β w aL.block=none:=by
 refine⟨⟨h.cw.os,h.cw.tape,h.cw.output,h.cw.size,fun k ad aH=> ?_,fun k o bh=> ?_⟩,fun aL v e=> ?_⟩
 ·have bY:k<W.base.heap.size:=ad
  rcases h.cw.block k bY with e|⟨c,t,cd,c',a1,a6,cU,cx⟩
  ·exact e
  ·have:c'=c:=Array.ext_getElem? fun o=>cx o fun j r az aq=>(h5 j r az).1 (by rw[←aq.1];exact aH)
   rw[a6,this]
   exact a1.symm
 ·unfold mA at bh
  split at bh
  ·rename_i hex
   obtain⟨i,r,gH,hi,rfl⟩:=hex
   obtain⟨_,arr,t,ea,_⟩:=Aq h h5 hi
   have hr:=bh
   rw[ea]at hr
   simp only[Option.some.injEq]at hr
   refine⟨bh,⟨arr,t,_,hr.symm⟩,fun aH=> ?_⟩
   obtain⟨b,ah,_,aS,h1,h2⟩:=h.box i r hi
   cases he:b.ext with
   |false=>exact(h1 he).1
   |true=>exact absurd aH (h5 i r (h2 he).1).1
  ·cases bh
 ·cases q:mA σ β w aL.block with
  |none=>rfl
  |some o=>
   exfalso
   unfold mA at q
   split at q
   ·rename_i hex
    obtain⟨i,r,gH,hi,ar⟩:=hex
    obtain⟨z,arr,t,ea,ft⟩:=Aq h h5 hi
    obtain⟨cR,gR,hf,_⟩:=zW gH
    have hw:=h.cJ aL v e
    have eI:r.has aL:=by
     refine⟨ar.symm,.inr ?_⟩
     rw[World.cell?,←ar,ea]at hw
     simp only at hw
     split at hw
     ·cases hw
     ·have:=(Array.getElem?_eq_some_iff.1 hw).1
      omega
    rw[h.dV i r cR hi gR hf aL eI]at e
    cases e
   ·cases q
section
variable {E:Nat→Option (List D)} {M l:Nat} {J:Nat→(Nat→Option Obj)→Mem→World→Prop} {Jx:(Nat→Option Obj)→World→Prop}
 (l6:∀k p m bW c9 eB cy,J k p m bW→tb p bW c9 cy→bT m eB→bT eB cy.cell?→(∀aL v,eB aL=some v→aL.block<bW.heap.size→m aL=some v)→(∀aL v,eB aL=some v→c9 aL.block=none)→J k c9 eB cy)
 (dF:∀k p m bW x (vs:Array Value),k<M→E k=some x→J k p m bW→bI m x vs.toList→∀n,YieldAt (gb none) n P l vs bW fun e cy=>
    bT m cy.cell?∧(∀b o,p b=some o→cy.heap[b]? =some o)∧((e= .returned (.bool true)∧J (k+1) p m cy∧k+1<M)∨(e= .returned (.bool false)∧Jx p cy)))
include l6 dF
theorem xF (cE:aO P aF Γ) {M0:Nat} (bR:M0≤N) {K:e3→St→Prop} {Q:Exit→Act→World→Prop} (cn:∀a w,wc N M aF J Jx K a w→Q .normal a w):
 ∀(is:List Nat) (kW:List bE),iF (fun i lo=>∃o,ops[i]? =some o∧lv P M0 ops o=some lo) is kW→(∀(i:Nat) (o:Oper),ops[i]? =some o→∀c,o.op≠ .defer c)→
 ∀(y:e3) (σ:St) (a:Act) (w:World),Lb N M aF J Jx y σ a w→gC Γ E M l K kW y σ→wpOpsIn (gb none) n P ops Q is a w
 |[],_,h,_=>fun y σ a w ao ad=>by
  cases h
  exact cn _ _ ⟨_,_,ad,ao⟩
 |i::is,_,h,hv=>fun y σ a w ahd ad=>by
  cases h with
  |cons hi aq=>
   obtain⟨o,bh,tG⟩:=hi
   obtain⟨lo,g,h1,h2,al,rfl⟩:=wH tG
   have aC:=zR bR al
   obtain⟨W,jP,rd,β,R,p,ao,hm,h5,vI,yq⟩:=ahd
   simp only[gC]at ad
   simp only[wpOpsIn,bh]
   split at ad
   ·
    rename_i o4 as hy
    obtain⟨UF,bb,ar,iJ,ad⟩:=ad
    have aeL:l=o4:=UF.symm
    subst aeL
    try simp only at bb
    subst bb
    have ahe:o.guard=none:=by
     unfold xo at h2
     split at h2
     ·rename_i aH;exact aH
     ·split at h2
      ·simp at h2
      ·cases h2
    have hw:Region.wanted o (yielded ops a.tmps)=true:=by simp[Region.wanted,ahe]
    rw[if_pos hw]
    try simp only at hy
    have ahf:∃x,lo= .gj x as∧σ.aT x= .c6 l:=by
     unfold vH at hy
     split at hy
     ·rename_i x HX
      split at hy
      ·rename_i alE aB
       simp only[Option.some.injEq,Prod.mk.injEq]at hy
       obtain⟨rfl,rfl⟩:=hy
       exact⟨x,rfl,aB⟩
      ·cases hy
     ·cases hy
    obtain⟨x,rfl,Cr⟩:=ahf
    obtain⟨amn,HX,c2,bu,ahg,has⟩:=D2 h1
    have cL:=ef ao ahg
    rw[Cr]at cL
    simp only[aP]at cL
    split at ad
    rotate_left
    ·exact ad.elim
    rename_i mH fX
    obtain⟨dQ,gm,ahh⟩:=ad
    obtain⟨ahi,Ie⟩:=vI ar
    obtain⟨mN,Ic⟩:=Ar ao h5
    have ahj:J y.k (mA σ β w) rd w:=l6 _ _ _ _ _ _ _ ahi mN ao.dd ao.cJ (fun aL v e aB=>ao.aF aL v e aB) Ic
    have gF:bI rd mH (HX.map a.eval).toList:=by
     have:=uG ao iJ fX (by simpa using nb ao has)
     rw[Array.toList_map]
     exact this
    obtain⟨fn,tmps,assign,body,ahk,ahl⟩:=dF _ _ _ _ _ _ Ie dQ ahj gF (n - 1)
    have hex:(execOp a.eval o).run P w= .ok (.round l fn tmps assign body) w:=by
     simp[execOp,bu,resolve,cL,Deferred.ofValue,invoke,ahk]
    refine⟨fun _ _=>trivial,?_⟩
    rw[show (gb none).round=none from rfl,Oper.semAt_none,hex,Oper.uponIn_round]
    refine⟨fun aC=>by simp[gb,Fence.wide]at aC,ahl.mono fun e cy he=> ?_⟩
    obtain⟨yl,UG,he⟩:=he
    have SI:bT aF rd:=hm.trans ao.dd
    have UH:∀i r,σ.keeps i=true→β i=some r→cy.heap[r.bS]? =w.heap[r.bS]? :=fun i r gH hi=>by
     obtain⟨_,arr,t,ea,_⟩:=Aq ao h5 hi
     have:mA σ β w r.bS=some (.cells arr t (0,0)):=by unfold mA;rw[if_pos ⟨i,r,gH,hi,rfl⟩];exact ea
     rw[UG _ _ this,ea]
    have UI:Bf (pJ σ β) (mA σ β w) cy:=fun i r' hi'=>by
     obtain⟨gH,r,hi,rfl⟩:=wO hi'
     obtain⟨z,arr,t,ea,ft⟩:=Aq ao h5 hi
     have:mA σ β w r.bS=some (.cells arr t (0,0)):=by unfold mA;rw[if_pos ⟨i,r,gH,hi,rfl⟩];exact ea
     exact⟨by show mA σ β w r.bS≠none;rw[this];simp,z,arr,t,UG _ _ this,ft⟩
    rcases he with ⟨rfl,ahm,tw⟩|⟨rfl,e2⟩
    ·exact xF cE bR cn is _ aq hv _ _ _ _ ⟨cy,_,_,_,_,_,(My ao yl UH).put aC (by simp only[aP,bn]),SI,UI,fun _=>⟨ahm,tw⟩,fun e=>by cases e⟩ (gm tw)
    ·exact xF cE bR cn is _ aq hv _ _ _ _ ⟨cy,_,_,_,_,_,(My ao yl UH).put aC (by simp only[aP,bn]),SI,UI,(fun e=>by cases e),fun _=>e2⟩ ahh
   ·rcases zJ ao h2 ad with ⟨hw,ad⟩|⟨hw,ad⟩
    ·rw[if_pos hw]
     have Il:=Ev (cE.mono hm) ao h1 aC ad (fun b2 w'=>hb N W.base jP R (gC Γ E M l K _ y) b2 w') (fun _ _ _=>False) fun σ' b2 w' rd' β' bY ct=>⟨σ',rd',β',bY,ct⟩
     have:=AG (r:=none) (n:=n) (ds:=[]) (Q':=Q) (next':=wpOpsIn (gb none) n P ops Q is) (hv i o bh) (by rintro⟨_,_,h⟩;exact h) Il (fun b2 w' v ms e dT=> ?_) (fun _ _ h=>h.elim)
     ·rw[pr]at this;exact this
     ·rw[pr]
      obtain⟨σ',rd',β',bY,ct⟩:=dT
      exact xF cE bR cn is _ aq hv _ _ _ _ ⟨W,_,_,_,_,_,ct,hm,h5,vI,yq⟩ bY
    ·rw[if_neg (by rw[hw];simp)]
     exact⟨fun _ _=>trivial,xF cE bR cn is _ aq hv _ _ _ _ ⟨W,_,_,_,_,_,ao.put aC (by simp only[aP]),hm,h5,vI,yq⟩ ad⟩
theorem ady (hm:P.follows .mixedOrders=true) (cE:aO P aF Γ) {M0:Nat} (bR:M0≤N):∀(c:Code) {lc:au} {Q:eg→e3→St→Prop} {y:e3} {σ:St} {a:Act} {w:World},dv P M0 c=some lc→
 Lb N M aF J Jx y σ a w→eP Γ E M l lc Q y σ→c.wpIn (gb none) n P (aeK N M aF J Jx Q) a w:=by
 intro c
 induction c with
 |skip=>
  intro lc Q y σ a w ae h ad
  simp only[dv,Option.some.injEq]at ae;subst ae
  exact wpIn_skip ⟨y,σ,ad,h⟩
 |region id ops drawn=>
  intro lc Q y σ a w ae h ad
  obtain⟨o4,aB,⟨rfl,rfl⟩|⟨rfl,_,_,e⟩⟩:=Ed ae
  ·simp only[eP]at ad
   exact wpIn_region (xF l6 dF cE bR (fun _ _ h=>h) _ _ (wD aB) (Om aB) _ _ _ _ h ad)
  ·have bY:bZ Γ lc (fun e s=>Q e y s) σ:=by rw[e]at ad⊢;exact ad
   obtain⟨W,jP,rd,β,R,p,ao,ar,h5,h1,h2⟩:=h
   have:=M8 (r:=none) (n:=n) (ds:=[]) (T:=fun _=>false) (av:=fun _=>undef) hm (cE.mono ar) bR ae (fun _ _=>rfl) (fun t ae=>by cases ae) ao bY
   rw[pr]at this
   refine wpIn_mono this fun e b2 w' he=> ?_
   obtain⟨eb,rfl,_,he⟩:=he
   rw[pr]
   cases e with
   |normal=>obtain⟨σ',rd',β',br,bw⟩:=he;exact⟨y,σ',br,W,jP,rd',β',R,p,bw,ar,h5,h1,h2⟩
   |exit j=>obtain⟨σ',rd',β',br,bw⟩:=he;exact⟨y,σ',br,W,jP,rd',β',R,p,bw,ar,h5,h1,h2⟩
   |ret=>obtain⟨σ',rd',β',br,bw⟩:=he;exact⟨y,σ',br,W,jP,rd',β',R,p,bw,ar,h5,h1,h2⟩
   |_=>exact he.elim
 |seq x z jo Im=>
  intro lc Q y σ a w ae h ad
  simp only[dv]at ae
  split at ae
  ·rename_i cP Dq ah bg
   simp only[Option.some.injEq]at ae;subst ae
   simp only[eP]at ad
   refine wpIn_seq (wpIn_mono (jo ah h ad) fun e b2 w' he=> ?_)
   cases e with
   |normal=>obtain⟨eh,σ',br,bw⟩:=he;exact Im bg bw br
   |exit id=>exact he
   |ret=>exact he
   |_=>exact he.elim
  ·cases ae
 |cond Cn x z jo Im=>
  intro lc Q y σ a w ae h ad
  simp only[dv]at ae
  split at ae
  ·rename_i aT cP Dq ao ah bg
   simp only[Option.some.injEq]at ae;subst ae
   simp only[eP]at ad
   have aq:∃rd β,aP rd β (σ.aT aT) (a.eval Cn):=by
    obtain⟨W,jP,rd,β,R,p,cT,_⟩:=h
    exact⟨rd,β,ef cT ao⟩
   obtain⟨rd,β,aq⟩:=aq
   split at ad
   ·rename_i t tJ
    rw[tJ]at aq
    simp only[aP,bn]at aq
    cases t with
    |true=>exact wpIn_cond_true aq (jo ah h (ad.1 rfl))
    |false=>exact wpIn_cond_false aq (Im bg h (ad.2 rfl))
   ·exact ad.elim
  ·cases ae
 |block id x cm=>
  intro lc Q y σ a w ae h ad
  simp only[dv]at ae
  obtain⟨cP,ah,rfl⟩:=map_some ae
  simp only[eP]at ad
  refine wpIn_block (wpIn_mono (cm ah h ad) fun e b2 w' he=> ?_)
  cases e with
  |normal=>exact he
  |exit j=>
   obtain⟨eh,σ',br,bw⟩:=he
   simp only at br
   unfold Exit.inBlock
   simp only
   split at br
   ·rename_i az;rw[if_pos az];exact⟨eh,σ',br,bw⟩
   ·rename_i az;rw[if_neg az];exact⟨eh,σ',br,bw⟩
  |ret=>exact he
  |_=>exact he.elim
 |loop x cm=>
  intro lc Q y σ a w ae h ad
  simp only[dv]at ae
  obtain⟨cP,ah,rfl⟩:=map_some ae
  simp only[eP]at ad
  obtain⟨I,dN,h0,fZ⟩:=ad
  refine LU (fun m a w=>wc N M aF J Jx (fun y s=>I y s∧dN y s=m) a w) (dN y σ) ⟨y,σ,⟨h0,rfl⟩,h⟩ ?_
  rintro m a w ⟨y,s,⟨br,rfl⟩,h⟩
  refine wpIn_mono (cm ah h (fZ y s br)) fun e b2 w' he=> ?_
  cases e with
  |normal=>
   obtain⟨eh,df,⟨Dm,YK⟩,akx⟩:=he
   exact⟨dN eh df,YK,eh,df,⟨Dm,rfl⟩,akx⟩
  |exit j=>exact he
  |ret=>exact he
  |_=>exact he.elim
 |exit id=>
  intro lc Q y σ a w ae h ad
  simp only[dv,Option.some.injEq]at ae;subst ae
  exact wpIn_exit ⟨y,σ,ad,h⟩
 |ret=>
  intro lc Q y σ a w ae h ad
  simp only[dv,Option.some.injEq]at ae;subst ae
  exact wpIn_ret ⟨y,σ,ad,h⟩
 |_=>intro lc Q y σ a w ae h ad;cases ae
end
theorem acN {l:Nat} {ds:List D} {da:Array Value} (aq:bI rd ds da.toList) (k:Nat) (t:Nat):
 aP rd β ((nU l ds).af t) ((#[Value.func (.yield l) #[] #[]]++da++Array.replicate k undef).getD t undef):=by
 rw[Array.append_assoc,Array.getD_eq_getD_getElem?]
 cases t with
 |zero=>
  rw[Array.getElem?_append_left (by simp)]
  simp[nU,aP]
 |succ t=>
  rw[Array.getElem?_append_right (by simp)]
  have:=NF (β:=β) aq k t
  rw[Array.getD_eq_getD_getElem?]at this
  rw[show t+1 - (#[Value.func (.yield l) #[] #[]]:Array Value).size=t by simp]
  show aP rd β ((mG ds).af t) _
  exact this
theorem Q1 (hm:P.follows .mixedOrders=true) {B:Mem} (cE:aO P B Γ) {f:Nat} {fn:Func} (gJ:P.funcs[f]? =some fn) (nT:(fn.name== "runtime.NumGoroutine")=false) {lc:au} (hf:aV P f=some (lc,[])) {C:kx}
 (h:∀ds,C.pre ds→∀M l,vp Γ (C.seq ds) M l lc ds):Uz P B f C:=by
 simp only[aV,gJ]at hf
 split at hf
 ·rename_i c ao
  split at hf
  ·rename_i l8 lS ae e7
   simp only[Option.some.injEq,Prod.mk.injEq]at hf
   obtain⟨rfl,rfl⟩:=hf
   refine⟨⟨fn,gJ,nT,by rw[ao];rfl⟩,fun ds aS w rd da l M J Jx aN lH gF cj ahn l6 ym dF=> ?_⟩
   have ad:=h ds aS M l
   unfold vp at ad
   refine(callsIn_wide (n:=0)).1 (callsIn_of_wp (F:=gb none) gJ ao trivial ?_ rfl)
   obtain⟨vs,rC⟩:∃vs,vs= #[Value.func (.yield l) #[] #[]]++da:=⟨_,rfl⟩
   rw[←rC]
   have nB:a8 (vs++Array.replicate (fn.ntmps - vs.size) undef).size w.base rd (fun _=>none) (nU l ds) { tmps:=vs++Array.replicate (fn.ntmps - vs.size) undef,defers:=[] } w rd (fun _=>none):= {
    size:=rfl
    defers:=rfl
    cw:=hl.refl _ _
    c4:=fun k o ad=>by cases ad
    cJ:=lH
    dd:=bT.refl _
    aF:=fun _ _ e _=>e
    dV:=fun i r b hi=>by cases hi
    dW:=fun t=>by rw[rC];exact acN gF _ t
    box:=fun i r hi=>by cases hi
    dP:=fun i b ar=>by cases ar
    dS:=fun i j aD ha _ hi=>by cases hi }
   refine wpIn_mono (ady (E:=C.seq ds) (M:=M) (l:=l) (J:=J) (Jx:=Jx) l6 dF hm (cE.mono aN) (M0:=fn.ntmps) (by simp;omega) c ae ⟨w,_,_,_,_,H7,nB,bT.refl _,(fun i r hi=>by cases hi),fun _=>⟨ahn,cj⟩,fun e=>by cases e⟩ ad) ?_
   have done:∀{a:Act} {w':World} {e:eg},wc (vs++Array.replicate (fn.ntmps - vs.size) undef).size M rd J Jx (fun y _=>(match e with| .exit _=>False|_=>True)∧(y.b=true→C.seq ds y.k=none)) a w'→
    a.defers=[]∧∃v,(results fn a.tmps).run P w'= .ok v w'∧∃ej,Ending.returned v= .returned ej∧((∃k p m,C.seq ds k=none∧J k p m w')∨∃p,Jx p w'):=by
    rintro a w' e ⟨y,σ,⟨_,hy⟩,W,jP,rd',β,R,p,cT,_,h5,h1,h2⟩
    refine⟨cT.defers,?_⟩
    have aB:mr σ []=some []:=rfl
    obtain⟨us,br,_⟩:=uz cT e7 aB
    have cq:∃v,(results fn a.tmps).run P w'= .ok v w':=by
     have nH:=wF (P:=P) (w:=w') fn.results.toList br
     unfold results
     rw[Array.mapM_eq_mapM_toList]
     simp only[Sem.run_bind,Sem.run_map]
     exact⟨_,congrArg (fun r:Result (List Value)=>(r.andThen fun a w'=>Result.ok a.toArray w').andThen fun(a:Array Value) w'=>Sem.run P (pure (if h:a.size=1 then a[0]else Value.tuple a)) w') nH⟩
    obtain⟨v,aA⟩:=cq
    refine⟨v,aA,v,rfl,?_⟩
    ·cases ar:y.b with
     |true=>exact .inl ⟨y.k,_,rd',hy ar,l6 _ _ _ _ _ _ _ (h1 ar).1 (Ar cT h5).1 cT.dd cT.cJ (fun aL v e aB=>cT.aF aL v e aB) (Ar cT h5).2⟩
     |false=>exact .inr ⟨_,ym _ _ _ _ (h2 ar) (Ar cT h5).1⟩
   intro e a w' he
   cases e with
   |normal=>exact done (e:= .normal) he
   |ret=>exact done (e:= .ret) he
   |exit id=>obtain⟨_,_,⟨h1,_⟩,_⟩:=he;exact h1.elim
   |_=>exact he.elim
  ·cases hf
 ·cases hf
end
end RV
namespace RV
open Go
theorem xv (F:ag→Prop) (l:Nat):cs (.c6 l) F=F (.c6 l):=rfl
theorem AK (σ:St) (ws:List Nat) (t:Nat):(σ.only ws).af t=if ws.contains t=true then .any else σ.af t:=rfl
theorem AL (σ:St) (ws:List Nat):(σ.only ws).aw=σ.aw:=rfl
theorem w3 (i l:Nat):ag.kill i (.c6 l)= .c6 l:=by simp[ag.kill,ag.has]
def bo.iG:bo→Bool
 | .gj _ _=>false
 |_=>true
def au.iG:au→Bool
 | .dc ops=>ops.all fun o=>o.op.iG||o.guard.isNone
 | .seq a b=>a.iG && b.iG
 | .cond _ a b=>a.iG && b.iG
 | .block _ a=>a.iG
 | .loop a=>a.iG
 |_=>true
section
variable {Γ:Env} {E:Nat→Option (List D)} {M l:Nat} {σ:St} {y:e3}
theorem abm {op:bo} (h:op.iG=true):vH σ op=none:=by cases op<;>first|rfl|simp[bo.iG]at h
theorem PG {o:bE} {K:St→Prop} {no:Prop} (aH:(o.op.iG||o.guard.isNone)=true) (h:guarded σ o.guard (cQ Γ o.dst σ K o.op) no):vH σ o.op=none:=by
 rw[Bool.or_eq_true]at aH
 rcases aH with aH|aH
 ·exact abm aH
 ·rw[Option.isNone_iff_eq_none]at aH
  rw[aH]at h
  obtain⟨dst,op,g⟩:=o
  cases op with
  |gj x as=>
   simp only[guarded,cQ]at h
   unfold vH
   simp only
   split at h
   ·rename_i e;rw[e]
   ·rename_i e;rw[e]
   ·exact h.elim
  |_=>rfl
theorem sv {K:e3→St→Prop} :∀{ops:List bE} {σ:St},(ops.all fun o=>o.op.iG||o.guard.isNone)=true→fA Γ (K y) ops σ→gC Γ E M l K ops y σ
 |[],_,_,h=>h
 |o::r,σ,aH,h=>by
  simp only[List.all_cons,Bool.and_eq_true]at aH
  simp only[fA]at h
  simp only[gC,PG aH.1 h]
  exact zD (fun k=>Ak (fun s ay=>sv aH.2 ay) k) (fun k=>sv aH.2 k) h
theorem kA:∀(c:au) {Q:eg→e3→St→Prop} {y:e3} {σ:St},c.iG=true→bZ Γ c (fun e s=>Q e y s) σ→eP Γ E M l c Q y σ
 | .skip,_,_,_,_,h=>h
 | .dc ops,Q,y,σ,aH,h=>sv aH h
 | .jh pre oO,_,_,_,_,h=>h
 | .seq a b,Q,y,σ,aH,h=>by
   simp only[au.iG,Bool.and_eq_true]at aH
   simp only[bZ]at h
   simp only[eP]
   refine kA a aH.1 (h8 a (fun e s ay=> ?_) h)
   cases e with
   |normal=>exact kA b aH.2 ay
   |exit j=>exact ay
   |ret=>exact ay
 | .cond c a b,Q,y,σ,aH,h=>by
   simp only[au.iG,Bool.and_eq_true]at aH
   simp only[bZ]at h
   simp only[eP]
   split at h
   ·rename_i e
    rw[e]
    exact⟨fun e=>kA a aH.1 (h.1 e),fun e=>kA b aH.2 (h.2 e)⟩
   ·exact h.elim
 | .block id a,Q,y,σ,aH,h=>by
   simp only[bZ]at h
   simp only[eP]
   refine kA a aH (h8 a (fun e s ay=> ?_) h)
   cases e<;>exact ay
 | .loop a,Q,y,σ,aH,h=>by
   simp only[bZ,sQ]at h
   simp only[eP]
   obtain⟨I,dN,h0,fZ⟩:=h
   refine⟨fun z s=>z=y∧I s,fun _ s=>dN s,⟨rfl,h0⟩,?_⟩
   rintro z s ⟨rfl,ay⟩
   refine kA a aH (h8 a (fun e df iL=> ?_) (fZ s ay))
   cases e with
   |normal=>exact⟨⟨rfl,iL.1⟩,iL.2⟩
   |exit j=>exact iL
   |ret=>exact iL
 | .exit id,_,_,_,_,h=>h
 | .ret,_,_,_,_,h=>h
theorem ab2 {dst:Option Nat} {K ei:e3→St→Prop} (bV:∀y s,K y s→ei y s) {vs:List ag} (h:yp E M dst y σ K vs):yp E M dst y σ ei vs:=by
 unfold yp at*
 obtain⟨h1,h2,al⟩:=h
 refine⟨h1,h2,?_⟩
 split at al
 ·exact⟨al.1,fun e=>bV _ _ (al.2.1 e),bV _ _ al.2.2⟩
 ·exact al.elim
theorem zX {K ei:e3→St→Prop} (bV:∀y s,K y s→ei y s):∀{ops:List bE} {y:e3} {σ:St},gC Γ E M l K ops y σ→gC Γ E M l ei ops y σ
 |[],_,_,h=>bV _ _ h
 |o::r,y,σ,h=>by
  simp only[gC]at*
  split at h
  ·exact⟨h.1,h.2.1,ab2 (fun y s ay=>zX bV ay) h.2.2⟩
  ·exact zD (fun k=>Ak (fun s ay=>zX bV ay) k) (fun k=>zX bV k) h
theorem qR:∀(c:au) {Q Q':eg→e3→St→Prop} {y:e3} {σ:St},(∀e y s,Q e y s→Q' e y s)→eP Γ E M l c Q y σ→eP Γ E M l c Q' y σ
 | .skip,_,_,_,_,aZ,h=>aZ _ _ _ h
 | .dc ops,_,_,_,_,aZ,h=>zX (fun y s ay=>aZ _ _ _ ay) h
 | .jh pre oO,_,_,_,_,aZ,h=>sB (fun s ay=>wR (fun s ay=>aZ _ _ _ ay) ay) h
 | .seq a b,_,_,_,_,aZ,h=>by
   simp only[eP]at*
   refine qR a (fun e y s ay=> ?_) h
   cases e with
   |normal=>exact qR b aZ ay
   |exit j=>exact aZ _ _ _ ay
   |ret=>exact aZ _ _ _ ay
 | .cond c a b,_,_,_,_,aZ,h=>by
   simp only[eP]at*
   split at h
   ·exact⟨fun e=>qR a aZ (h.1 e),fun e=>qR b aZ (h.2 e)⟩
   ·exact h.elim
 | .block id a,_,_,_,_,aZ,h=>by
   simp only[eP]at*
   refine qR a (fun e y s ay=> ?_) h
   cases e with
   |normal=>exact aZ _ _ _ ay
   |exit j=>simp only at ay⊢;split at ay<;>rename_i az<;>simp only[az,if_true,if_false]<;>exact aZ _ _ _ ay
   |ret=>exact aZ _ _ _ ay
 | .loop a,_,_,_,_,aZ,h=>by
   simp only[eP]at*
   obtain⟨I,dN,h0,fZ⟩:=h
   refine⟨I,dN,h0,fun z s ay=>qR a (fun e gv df iL=> ?_) (fZ z s ay)⟩
   cases e with
   |normal=>exact iL
   |exit j=>exact aZ _ _ _ iL
   |ret=>exact aZ _ _ _ iL
 | .exit id,_,_,_,_,aZ,h=>aZ _ _ _ h
 | .ret,_,_,_,_,aZ,h=>aZ _ _ _ h
theorem uR {a b:au} {Q:eg→e3→St→Prop} (K:e3→St→Prop) (a2:eP Γ E M l a (fun e y s=>match e with| .normal=>K y s|e=>Q e y s) y σ) (ar:∀y s,K y s→eP Γ E M l b Q y s):eP Γ E M l (.seq a b) Q y σ:=by
 simp only[eP]
 refine qR a (fun e y s ay=> ?_) a2
 cases e with
 |normal=>exact ar _ _ ay
 |exit j=>exact ay
 |ret=>exact ay
theorem mg {a b:au} {Q:eg→e3→St→Prop} (K:St→Prop) (aH:a.iG=true) (a2:bZ Γ a (fun e s=>match e with| .normal=>K s|e=>Q e y s) σ) (ar:∀s,K s→eP Γ E M l b Q y s):eP Γ E M l (.seq a b) Q y σ:=by
 refine uR (fun z s=>z=y∧K s) (kA a aH (h8 a (fun e s ay=> ?_) a2)) ?_
 ·cases e with
  |normal=>exact⟨rfl,ay⟩
  |exit j=>exact ay
  |ret=>exact ay
 ·rintro z s ⟨rfl,ay⟩
  exact ar s ay
theorem wU {id:Nat} {a:au} {Q:eg→e3→St→Prop} (h:eP Γ E M l a (fun e y s=>match e with| .exit j=>if j=id then Q .normal y s else Q (.exit j) y s|e=>Q e y s) y σ):eP Γ E M l (.block id a) Q y σ:=h
theorem Eg {a:au} {Q:eg→e3→St→Prop} (I:e3→St→Prop) (dN:e3→St→Nat) (h0:I y σ)
 (fZ:∀z s,I z s→eP Γ E M l a (fun e gv df=>match e with| .normal=>I gv df∧dN gv df<dN z s|e=>Q e gv df) z s):eP Γ E M l (.loop a) Q y σ:=by
 simp only[eP]
 refine⟨I,dN,h0,fun z s ay=>qR a (fun e gv df iL=> ?_) (fZ z s ay)⟩
 cases e<;>exact iL
theorem Na {K:e3→St→Prop} (n:Nat) (R:St→Prop):∀{ops:List bE} {σ:St},((ops.take n).all fun o=>o.op.iG||o.guard.isNone)=true→fA Γ R (ops.take n) σ→(∀s,R s→gC Γ E M l K (ops.drop n) y s)→gC Γ E M l K ops y σ:=by
 intro ops σ aH h ar
 have key:∀(as we:List bE) (σ:St),(as.all fun o=>o.op.iG||o.guard.isNone)=true→fA Γ R as σ→(∀s,R s→gC Γ E M l K we y s)→gC Γ E M l K (as++we) y σ:=by
  intro as we
  induction as with
  |nil=>intro σ _ h ar;exact ar _ h
  |cons o r cm=>
   intro σ aH h ar
   simp only[List.all_cons,Bool.and_eq_true]at aH
   simp only[fA]at h
   simp only[List.cons_append,gC,PG aH.1 h]
   exact zD (fun k=>Ak (fun s ay=>cm s aH.2 ay ar) k) (fun k=>cm _ aH.2 k ar) h
 have:=key (ops.take n) (ops.drop n) σ aH h ar
 rwa [List.take_append_drop]at this
theorem L8 {K:e3→St→Prop} {dst:Option Nat} {x:bk} {as:List bk} {r:List bE} {ds:List D} (ah:σ.aT x= .c6 l) (aS:ag.fO (ch σ as)=true) (aC:toDs σ (ch σ as)=some ds) (ar:y.b=true) (dQ:E y.k=some ds)
 (h1:y.k+1<M→gC Γ E M l K r ⟨y.k+1,true⟩ (σ.still.put dst (.d (.bool true)))) (h2:gC Γ E M l K r ⟨y.k,false⟩ (σ.still.put dst (.d (.bool false)))):gC Γ E M l K (⟨dst,.gj x as,none⟩::r) y σ:=by
 simp only[gC,vH,ah,yp,aC]
 exact⟨trivial,trivial,ar,aS,dQ,h1,h2⟩
theorem qU {t:Nat} {d:D} (h:σ.af t= .d d):σ.still.af t= .d d:=by simp[St.still,h,ag.ids]
theorem Nb {t n:Nat} (h:σ.af t= .c6 n):σ.still.af t= .c6 n:=by simp[St.still,h,ag.ids]
theorem Mz {i:Nat} {e:Bool} {c:BC} (ar:σ.aw i=some ⟨false,e,c⟩) (ao:c.pure=true):σ.keeps i=true:=by simp[St.keeps,ar,ao]
theorem Nc {t i o:Nat} {e:Bool} {c:BC} (h:σ.af t= .box i o) (ar:σ.aw i=some ⟨false,e,c⟩) (ao:c.pure=true):σ.still.af t= .box i o:=by simp[St.still,h,ag.ids,Mz ar ao]
theorem Oo {i:Nat} {e:Bool} {c:BC} (ar:σ.aw i=some ⟨false,e,c⟩) (ao:c.pure=true):σ.still.aw i=some ⟨false,true,c⟩:=by simp[St.still,Mz ar ao,ar]
end
end RV
namespace RV
open Go Go.RowKit
inductive jA where
 |c (a:au)
 |seq (a b:jA)
 |cond (c:bk) (a b:jA)
 |goto
def mn (P:Program) (N:Nat):Code→Option jA
 | .goto 0=>some .goto
 | .label _=>some (.c .skip)
 | .seq a b=>match dv P N (.seq a b)with
   |some l=>some (.c l)
   |none=>match mn P N a,mn P N b with
    |some x,some y=>some (.seq x y)
    |_,_=>none
 | .cond c a b=>match dv P N (.cond c a b)with
   |some l=>some (.c l)
   |none=>match dz P c,mn P N a,mn P N b with
    |some c,some x,some y=>some (.cond c x y)
    |_,_,_=>none
 |c=>(dv P N c).map .c
def uS (P:Program) (f:Nat):Option (au×jA×jA×List bl):=
 match P.funcs[f]? with
 |some fn=>match fn.body with
  |some (.seq p (.scope c))=>match findLabel c 0 with
   |some r=>match dv P fn.ntmps p,mn P fn.ntmps c,mn P fn.ntmps r,qS P fn.results.toList with
    |some p,some x,some y,some rs=>some (p,x,y,rs)
    |_,_,_,_=>none
   |none=>none
  |_=>none
 |none=>none
def js (Γ:Env):jA→(St→Prop)→(St→Prop)→(St→Prop)→St→Prop
 | .c l,hc,gZ,_,σ=>bZ Γ l (fun e s=>match e with| .normal=>hc s| .ret=>gZ s| .exit _=>False) σ
 | .seq a b,hc,gZ,g0,σ=>js Γ a (fun s=>js Γ b hc gZ g0 s) gZ g0 σ
 | .cond c a b,hc,gZ,g0,σ=>match σ.aT c with
   | .d (.bool t)=>(t=true→js Γ a hc gZ g0 σ)∧(t=false→js Γ b hc gZ g0 σ)
   |_=>False
 | .goto,_,_,g0,σ=>g0 σ
def Bz (Γ:Env) (p:au) (a b:jA) (rs:List bl) (args:List D) (K:D→Prop):Prop:=
 bZ Γ p (fun e l9=>match e with
  | .normal=>∃(J:St→Prop) (dN:St→Nat),js Γ a (fun s=>iD rs s K) (fun s=>iD rs s K) J l9∧∀s,J s→js Γ b (fun s=>iD rs s K) (fun s=>iD rs s K) (fun df=>J df∧dN df<dN s) s
  |_=>False) (mG args)
section
variable {N:Nat} {aK:dU} {aF:Mem} {R:bC} {σ σ':St} {a:Act} {w w':World} {rd rd':Mem} {β β':bC} {P:Program} {Γ:Env}
def SJ (N:Nat) (aK:dU) (aF:Mem) (R:bC) (hc gZ g0:St→Prop):Exit→Act→World→Prop
 | .normal,a,w=>hb N aK aF R hc a w
 | .ret,a,w=>hb N aK aF R gZ a w
 | .goto l,a,w=>l=0∧hb N aK aF R g0 a w
 |_,_,_=>False
theorem L9 (hm:P.follows .mixedOrders=true) (cE:aO P aF Γ) {M:Nat} (bR:M≤N):∀(c:Code) {um:jA} {hc gZ g0:St→Prop} {σ:St} {a:Act} {w:World} {rd:Mem} {β:bC},mn P M c=some um→
 a8 N aK aF R σ a w rd β→js Γ um hc gZ g0 σ→c.wp P (SJ N aK aF R hc gZ g0) a w:=by
 intro c
 have plain:∀{c:Code} {l:au} {hc gZ g0:St→Prop} {σ:St} {a:Act} {w:World} {rd:Mem} {β:bC},dv P M c=some l→a8 N aK aF R σ a w rd β→js Γ (.c l) hc gZ g0 σ→c.wp P (SJ N aK aF R hc gZ g0) a w:=by
  intro c l hc gZ g0 σ a w rd β ae h ad
  refine wp_mono (wN hm cE bR c ae h ad) fun e b2 w' he=> ?_
  cases e with
  |normal=>exact he
  |ret=>exact he
  |exit id=>obtain⟨_,_,_,h1,_⟩:=he;exact h1.elim
  |_=>exact he.elim
 induction c with
 |seq x y jo lR=>
  intro um hc gZ g0 σ a w rd β ae h ad
  simp only[mn]at ae
  split at ae
  ·rename_i l aB
   simp only[Option.some.injEq]at ae;subst ae
   exact plain aB h ad
  ·split at ae
   ·rename_i cP ga ah hy
    simp only[Option.some.injEq]at ae;subst ae
    simp only[js]at ad
    refine wp_seq (wp_mono (jo ah h ad) fun e b2 w' he=> ?_)
    cases e with
    |normal=>obtain⟨σ',rd',β',h1,h2⟩:=he;exact lR hy h2 h1
    |ret=>exact he
    |goto l=>exact he
    |_=>exact he.elim
   ·cases ae
 |cond Cn x y jo lR=>
  intro um hc gZ g0 σ a w rd β ae h ad
  simp only[mn]at ae
  split at ae
  ·rename_i l aB
   simp only[Option.some.injEq]at ae;subst ae
   exact plain aB h ad
  ·split at ae
   ·rename_i aT cP ga ao ah hy
    simp only[Option.some.injEq]at ae;subst ae
    simp only[js]at ad
    have aq:=ef h ao
    split at ad
    ·rename_i t tJ
     rw[tJ]at aq
     simp only[aP,bn]at aq
     cases t with
     |true=>exact wp_cond_true aq (jo ah h (ad.1 rfl))
     |false=>exact wp_cond_false aq (lR hy h (ad.2 rfl))
    ·exact ad.elim
   ·cases ae
 |goto l=>
  intro um hc gZ g0 σ a w rd β ae h ad
  unfold mn at ae
  split at ae
  ·rename_i e
   simp only[Code.goto.injEq]at e
   simp only[Option.some.injEq]at ae;subst ae
   exact wp_goto ⟨e,σ,rd,β,ad,h⟩
  all_goals first
   |(rename_i e;cases e;done)
   |(obtain⟨_,q,_⟩:=map_some ae;cases q;done)
 |label l=>
  intro um hc gZ g0 σ a w rd β ae h ad
  simp only[mn,Option.some.injEq]at ae;subst ae
  exact wp_label ⟨σ,rd,β,ad,h⟩
 |_=>
  intro um hc gZ g0 σ a w rd β ae h ad
  simp only[mn]at ae
  obtain⟨l,aB,rfl⟩:=map_some ae
  exact plain aB h ad
theorem Z7 {c rest:Code} {Q:Exit→Act→World→Prop} (l:Nat) (J:Nat→Act→World→Prop) (hf:findLabel c l=some rest)
 (first:c.wp P (Exit.jump l (fun a w=>∃n,J n a w) Q) a w)
 (pass:∀n a w,J n a w→rest.wp P (Exit.jump l (fun b2 w'=>∃m,m<n∧J m b2 w') Q) a w):(Code.scope c).wp P Q a w:=by
 intro b k cs
 have bb:gotoIn l (.inScope c::k)=some (.code rest:: .inScope c::k):=by simp[gotoIn,hf]
 have key:∀n a w,J n a w→∃e b2 w',Q e b2 w'∧Arrives P (lone (b.at a (.code rest:: .inScope c::k)) cs w) b k cs e b2 w':=by
  intro n
  induction n using Nat.strongRecOn with
  |_ n cm=>
   intro a w l6
   obtain⟨e,fV,fW,aZ,eZ⟩:=pass n a w l6 b (.inScope c::k) cs
   cases e with
   |normal=>exact⟨.normal,fV,fW,aZ,Steps.trans eZ (.one step_inScope)⟩
   |exit id=>exact⟨.exit id,fV,fW,aZ,fun dM ad=>eZ dM (by simp[exitTo,ad])⟩
   |goto o4=>
    obtain⟨rfl,m,bp,Io⟩:=aZ
    obtain⟨s8,s9,ta,sX,sN⟩:=cm m bp fV fW Io
    exact⟨s8,s9,ta,sX,.of_steps (eZ _ bb) sN⟩
   |ret=>exact⟨_,fV,fW,aZ,eZ⟩
   |panic qv=>exact⟨_,fV,fW,aZ,eZ⟩
   |outgrown=>exact⟨_,fV,fW,aZ,eZ⟩
 obtain⟨e,fV,fW,aZ,eZ⟩:=first b (.inScope c::k) cs
 cases e with
 |normal=>exact⟨.normal,fV,fW,aZ,.head step_scope (Steps.trans eZ (.one step_inScope))⟩
 |exit id=>exact⟨.exit id,fV,fW,aZ,fun dM ad=> .head step_scope (eZ dM (by simp[exitTo,ad]))⟩
 |goto o4=>
  obtain⟨rfl,m,Io⟩:=aZ
  obtain⟨s8,s9,ta,sX,sN⟩:=key m fV fW Io
  exact⟨s8,s9,ta,sX,.of_steps (.head step_scope (eZ _ bb)) sN⟩
 |ret=>exact⟨_,fV,fW,aZ,.of_steps (.one step_scope) eZ⟩
 |panic qv=>exact⟨_,fV,fW,aZ,.of_steps (.one step_scope) eZ⟩
 |outgrown=>exact⟨_,fV,fW,aZ,.of_steps (.one step_scope) eZ⟩
theorem adz (hm:P.follows .mixedOrders=true) {B:Mem} (cE:aO P B Γ) {f:Nat} {fn:Func} (gJ:P.funcs[f]? =some fn) (nT:(fn.name== "runtime.NumGoroutine")=false) {YQ:au} {ck da:jA} {rs:List bl} (hf:uS P f=some (YQ,ck,da,rs)) {C:bq}
 (h:∀ds,C.pre ds→Bz Γ YQ ck da rs ds fun d=>d=C.res ds) (bh:C.own=false:=by rfl):my P B f C:=by
 simp only[uS,gJ]at hf
 split at hf
 ·rename_i c ao
  split at hf
  ·rename_i r aq
   split at hf
   ·rename_i m7 x y lS eM ah hy e7
    simp only[Option.some.injEq,Prod.mk.injEq]at hf
    obtain⟨rfl,rfl,rfl,rfl⟩:=hf
    refine⟨⟨fn,gJ,nT,by rw[ao];rfl⟩,fun ds aS w rd vs aN lH gF=> ?_⟩
    have h0:=h ds aS
    unfold Bz at h0
    refine calls_of_wp gJ ao ?_
    have nB:=z7 (N:=(vs++Array.replicate (fn.ntmps - vs.size) undef).size) lH gF (fn.ntmps - vs.size) rfl
    have bR:fn.ntmps≤(vs++Array.replicate (fn.ntmps - vs.size) undef).size:=by simp;omega
    refine wp_seq (wp_mono (wN hm (cE.mono aN) bR _ eM nB h0) fun e eb aK he=> ?_)
    cases e with
    |normal=>
     obtain⟨l9,aF,alF,⟨J,dN,h1,h2⟩,de⟩:=he
     refine Z7 0 (fun n a w'=>hb (vs++Array.replicate (fn.ntmps - vs.size) undef).size w.base rd (fun _=>none) (fun s=>J s∧dN s=n) a w') aq ?_ ?_
     ·refine wp_mono (L9 hm (cE.mono aN) bR c ah de h1) fun e a w' he=> ?_
      cases e with
      |normal=>exact xu e7 bh he
      |ret=>exact xu e7 bh he
      |goto l=>obtain⟨rfl,s,rd',β',br,bw⟩:=he;exact⟨rfl,dN s,s,rd',β',⟨br,rfl⟩,bw⟩
      |_=>exact he.elim
     ·rintro n a bW ⟨s,rd',β',⟨br,rfl⟩,bw⟩
      refine wp_mono (L9 hm (cE.mono aN) bR r hy bw (h2 s br)) fun e a w' he=> ?_
      cases e with
      |normal=>exact xu e7 bh he
      |ret=>exact xu e7 bh he
      |goto l=>obtain⟨rfl,df,aeM,aeN,⟨c3,gW⟩,ku⟩:=he;exact⟨rfl,dN df,gW,df,aeM,aeN,⟨c3,rfl⟩,ku⟩
      |_=>exact he.elim
    |ret=>obtain⟨_,_,_,q,_⟩:=he;exact q.elim
    |exit id=>obtain⟨_,_,_,q,_⟩:=he;exact q.elim
    |_=>exact he.elim
   ·cases hf
  ·cases hf
 ·cases hf
end
end RV
namespace RV
open Go
def au.uT:au→Bool
 | .loop _=>true
 | .seq a b=>a.uT||b.uT
 | .cond _ a b=>a.uT||b.uT
 | .block _ a=>a.uT
 |_=>false
def au.ap (c:au→au→au) (a b:au):au:=c a b
def au.c5 (c:au→au→au):au→au
 | .seq a b=>if a.uT=true then au.ap c (a.c5 c) (b.c5 c)else .seq (a.c5 c) (b.c5 c)
 | .cond x a b=> .cond x (a.c5 c) (b.c5 c)
 | .block i a=> .block i (a.c5 c)
 | .loop a=> .loop (a.c5 c)
 |l=>l
def jz.c5 (c:au→au→au):jz→jz
 | .c l=> .c (l.c5 c)
 | .seq a b=> .seq (a.c5 c) (b.c5 c)
 | .block i a=> .block i (a.c5 c)
 | .vG g p w a b=> .vG g p w (a.c5 c) (b.c5 c)
 |l=>l
def jA.c5 (c:au→au→au):jA→jA
 | .c l=> .c (l.c5 c)
 | .seq a b=> .seq (a.c5 c) (b.c5 c)
 | .cond x a b=> .cond x (a.c5 c) (b.c5 c)
 | .goto=> .goto
end RV
