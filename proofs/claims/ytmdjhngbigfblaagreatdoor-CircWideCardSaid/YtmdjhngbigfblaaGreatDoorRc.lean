/- Lemmas for a claim: an abstract machine for the translated code, proved sound, and contracts of functions. By an AI agent. -/
import Derived.Test.YtmdjhngbigfblaaGreatDoorRb
import Derived.OrdersIn
import Derived.RangeFuncLeaves
import Derived.RangeFuncRecord
import Derived.RangeFuncSeq
import Derived.ScopeJumps
set_option linter.all false
namespace RV
open Go
theorem YU (k:IntKind) (n:Int):ai.dY (.d (.int k n))=true:=rfl
theorem Yf (b:Bool):ai.dY (.d (.bool b))=true:=rfl
theorem YV (b:Nat):ai.dY (.d (.flt b))=true:=rfl
theorem Yg (k:IntKind) (n:List Int):ai.dY (.d (.ints k n))=true:=rfl
theorem Yh (n:List Nat):ai.dY (.d (.flts n))=true:=rfl
theorem Yi (k:Nat) (n:List (List D)):ai.dY (.d (.recs k n))=true:=rfl
theorem YW (n:List D):ai.dY (.d (.ptr n))=true:=rfl
theorem aaf (f:Nat) (x y:List D):ai.dY (.d (.fn f x y))=true:=rfl
theorem XT:ai.dY (.d .nilfn)=true:=rfl
theorem Yj:ai.dY (.d .nilp)=true:=rfl
theorem YX (n:List D):ai.dY (.d (.agg n))=false:=rfl
theorem YY (n:List D):ai.dY (.d (.fh n))=false:=rfl
theorem Yk (n:List ai):ai.dY (.agg n)=false:=rfl
theorem YZ:ai.dY .dt=false:=rfl
theorem Y0:ai.dY .any=false:=rfl
theorem Y1 (i o:Nat):ai.dY (.box i o)=true:=rfl
theorem Y2 (i o n:Nat):ai.dY (.own i o n)=true:=rfl
theorem Y3 (i o n:Nat):ai.dY (.ea i o n)=true:=rfl
theorem Y4 (i:Nat) (o n:List ai):ai.dY (.dr i o n)=true:=rfl
theorem abb (i:Nat) (x:D):ai.kill i (.d x)= .d x:=rfl
theorem Y5 (i:Nat):ai.kill i .dt= .dt:=rfl
theorem Y6 (i:Nat):ai.kill i .any= .any:=rfl
theorem Y7 (i j o:Nat):ai.kill i (.box j o)=if j=i then .any else .box j o:=by simp[ai.kill,ai.has]
theorem Y8 (i j o n:Nat):ai.kill i (.own j o n)=if j=i then .any else .own j o n:=by simp[ai.kill,ai.has]
theorem Y9 (i j o n:Nat):ai.kill i (.ea j o n)=if j=i then .any else .ea j o n:=by simp[ai.kill,ai.has]
theorem Za (i:Nat) (cs:List ai):ai.kill i (.agg cs)=if ai.cY i cs=true then .any else .agg cs:=by cases h:ai.cY i cs<;>simp[ai.kill,ai.has,h]
theorem Zb (i f:Nat) (x y:List ai):ai.kill i (.dr f x y)=if (ai.cY i x||ai.cY i y)=true then .any else .dr f x y:=by simp[ai.kill,ai.has]
section
variable {Γ:Env} {Q:e6→St→Prop} {σ σ':St} {K:St→Prop}
theorem G1:cp Γ .skip Q σ=Q .normal σ:=rfl
theorem Lm (ops:List bW):cp Γ (.cR ops) Q σ=eQ Γ (Q .normal) ops σ:=rfl
theorem uQ (pre:List (bW×List Nat)) (w2:List bW):cp Γ (.kd pre w2) Q σ=c2 Γ (eQ Γ (Q .normal) w2) pre (k8 σ pre):=rfl
theorem Hf (x y:ay):cp Γ (.seq x y) Q σ=cp Γ x (fun e s=>match e with| .normal=>cp Γ y Q s|e=>Q e s) σ:=rfl
theorem k3 (id:Nat) (x:ay):cp Γ (.block id x) Q σ=cp Γ x (fun e s=>match e with| .exit j=>if j=id then Q .normal s else Q (.exit j) s|e=>Q e s) σ:=rfl
theorem aag (id:Nat):cp Γ (.exit id) Q σ=Q (.exit id) σ:=rfl
theorem abd:cp Γ .ret Q σ=Q .ret σ:=rfl
theorem Zc:eQ Γ K [] σ=K σ:=rfl
theorem Zd:c2 Γ K [] σ=K σ:=rfl
end
section
variable (σ:St) (i j d t:Nat) (v:ai) (b:cr)
theorem Ln:(σ.put (some d) v).ag t=if t=d then v else σ.ag t:=rfl
theorem K1:(σ.put (some d) v).az=σ.az:=rfl
theorem K2:σ.put none v=σ:=rfl
theorem K3:(σ.eF i b).ag=σ.ag:=rfl
theorem KQ:(σ.eF i b).az j=if j=i then some b else σ.az j:=rfl
theorem KR:(σ.fresh i b).ag t=(σ.ag t).kill i:=rfl
theorem KD:(σ.fresh i b).az j=if j=i then some b else (σ.az j).map (cr.kill i):=rfl
theorem KE:(σ.forget i).ag t=(σ.ag t).kill i:=rfl
theorem Ko:(σ.forget i).az j=(σ.az j).map (cr.kill i):=rfl
theorem Lo:(σ.w4 i).ag=σ.ag:=rfl
theorem K4:(σ.w4 i).az j=if j=i then (σ.az j).map (fun b=>⟨true,b.ext,b.c⟩)else σ.az j:=rfl
theorem Lp:σ.a3 (.t t)=σ.ag t:=rfl
theorem Lq (x:D):σ.a3 (.c x)=dn x:=rfl
end
theorem ak:type_of% (And.intro @Ln<|And.intro @K1<|And.intro @K2<|And.intro @K3<|And.intro @KQ<|And.intro @KR<|And.intro @KD<|And.intro @KE<|And.intro @Ko<|And.intro @Lo<|And.intro @K4<|And.intro @Lp<| @Lq):=
 And.intro @Ln<|And.intro @K1<|And.intro @K2<|And.intro @K3<|And.intro @KQ<|And.intro @KR<|And.intro @KD<|And.intro @KE<|And.intro @Ko<|And.intro @Lo<|And.intro @K4<|And.intro @Lp<| @Lq
def cs {α:Type} (a:α) (F:α→Prop):Prop:=F a
@[congr] theorem arZ {α:Type} {a b:α} {F:α→Prop} (h:a=b):cs a F=cs b F:=by rw[h]
section
variable (F:ai→Prop)
theorem adK (x:D):cs (.d x) F=F (.d x):=rfl
theorem abe (x:List ai):cs (.agg x) F=F (.agg x):=rfl
theorem abf (i o:Nat):cs (.box i o) F=F (.box i o):=rfl
theorem abg (i l n:Nat):cs (.own i l n) F=F (.own i l n):=rfl
theorem abh (i j o:Nat):cs (.ea i j o) F=F (.ea i j o):=rfl
theorem abi (f:Nat) (x y:List ai):cs (.dr f x y) F=F (.dr f x y):=rfl
theorem abj:cs .dt F=F .dt:=rfl
theorem abk:cs .any F=F .any:=rfl
end
theorem aah (F:Bool→Prop):cs true F=F true:=rfl
theorem Ze (F:Bool→Prop):cs false F=F false:=rfl
section
variable (F:D→Prop)
theorem aai (k:IntKind) (n:Int):cs (.int k n) F=F (.int k n):=rfl
theorem Zf (b:Bool):cs (.bool b) F=F (.bool b):=rfl
theorem aaj (b:Nat):cs (.flt b) F=F (.flt b):=rfl
theorem Zg (k:IntKind) (n:List Int):cs (.ints k n) F=F (.ints k n):=rfl
theorem Zh (n:List Nat):cs (.flts n) F=F (.flts n):=rfl
theorem Zi (k:Nat) (n:List (List D)):cs (.recs k n) F=F (.recs k n):=rfl
theorem aak (n:List D):cs (.ptr n) F=F (.ptr n):=rfl
theorem aal (n:List D):cs (.agg n) F=F (.agg n):=rfl
theorem aam (n:List D):cs (.fh n) F=F (.fh n):=rfl
theorem abl (f:Nat) (x y:List D):cs (.fn f x y) F=F (.fn f x y):=rfl
theorem Yl:cs .nilfn F=F .nilfn:=rfl
theorem Zj:cs .nilp F=F .nilp:=rfl
end
theorem Zk (b w:Bool) (p q:Prop):((b=w→p)∧(b=(!w)→q))=if b=w then p else q:=by
 cases b<;>cases w<;>simp
section
variable (Γ:Env) (σ:St) (K:St→Prop) (Q:e6→St→Prop)
theorem abm (c:bB) (x y:ay):cp Γ (.cond c x y) Q σ=cs (σ.a3 c) fun v=>match v with
 | .d (.bool t)=>if t=true then cp Γ x Q σ else cp Γ y Q σ
 |_=>False:=by
 show (match σ.a3 c with| .d (.bool t)=>(t=true→cp Γ x Q σ)∧(t=false→cp Γ y Q σ)|_=>False)=_
 unfold cs
 generalize σ.a3 c=X
 cases X with
 |d z=>cases z with
  |bool t=>cases t<;>simp
  |_=>rfl
 |_=>rfl
theorem adL (d:Option Nat) (op:bJ) (r:List bW):eQ Γ K (⟨d,op,none⟩::r) σ=db Γ d σ (eQ Γ K r) op:=rfl
theorem acF (d:Option Nat) (op:bJ) (t:Nat) (w:Bool) (r:List bW):eQ Γ K (⟨d,op,some (t,w)⟩::r) σ=cs (σ.ag t) fun v=>match v with
 | .d (.bool b)=>if b=w then db Γ d σ (eQ Γ K r) op else eQ Γ K r (σ.put d .dt)
 | .dt=>eQ Γ K r (σ.put d .dt)
 |_=>False:=by
 simp only[eQ,guarded]
 unfold cs
 generalize σ.ag t=X
 cases X with
 |d z=>cases z with
  |bool t=>exact Zk _ _ _ _
  |_=>rfl
 |_=>rfl
theorem acG (d:Option Nat) (op:bJ) (ck:List Nat) (r:List (bW×List Nat)):c2 Γ K ((⟨d,op,none⟩,ck)::r) σ=tU Γ ⟨d,op,none⟩ ck σ (c2 Γ K r):=rfl
theorem abn (d:Option Nat) (op:bJ) (t:Nat) (w:Bool) (ck:List Nat) (r:List (bW×List Nat)):c2 Γ K ((⟨d,op,some (t,w)⟩,ck)::r) σ=cs (σ.ag t) fun v=>match v with
 | .d (.bool b)=>if b=w then tU Γ ⟨d,op,some (t,w)⟩ ck σ (c2 Γ K r)else c2 Γ K r (σ.put d .dt)
 | .dt=>c2 Γ K r (σ.put d .dt)
 |_=>False:=by
 simp only[c2,guarded]
 unfold cs
 generalize σ.ag t=X
 cases X with
 |d z=>cases z with
  |bool t=>exact Zk _ _ _ _
  |_=>rfl
 |_=>rfl
end
section
variable (Γ:Env) (σ:St) (K:ai→Prop)
theorem adM (x:bB):bz Γ σ K (.bj x)=cs (σ.a3 x) K:=rfl
theorem abo (c x y:bB):bz Γ σ K (.pick c x y)=cs (σ.a3 c) fun v=>match v with
 | .d (.bool t)=>if t=true then cs (σ.a3 x) K else cs (σ.a3 y) K
 |_=>False:=by
 show (match σ.a3 c with| .d (.bool t)=>(t=true→K (σ.a3 x))∧(t=false→K (σ.a3 y))|_=>False)=_
 unfold cs
 generalize σ.a3 c=X
 cases X with
 |d z=>cases z with
  |bool t=>cases t<;>simp
  |_=>rfl
 |_=>rfl
theorem abp (n:Nat) (g:Bool) (x:bB):bz Γ σ K (.load n g x)=cs (σ.a3 x) fun v=>kv σ n g v K:=rfl
theorem aan (n:Nat) (g:Bool) (l:List D):kv σ n g (.d (.ptr l)) K=if g then n≤l.length∧cs (.agg ((l.take n).map .d)) K else cs l.head? fun o=>match o with
 |some d=>K (.d d)
 |none=>False:=by
 unfold cs
 cases g
 ·cases l<;>rfl
 ·rfl
theorem aao (n:Nat) (g:Bool) (i off:Nat):kv σ n g (.box i off) K=cs (σ.az i) fun b=>match b with
 |some ⟨_,_,.cells l⟩=>if g then off+n≤l.length∧cs (.agg ((l.drop off).take n)) K else cs l[off]? fun o=>match o with
  |some v=>cs v K
  |none=>False
 |_=>False:=by
 unfold cs
 simp only[kv]
 generalize σ.az i=X
 rcases X with _|⟨f,e,c⟩
 ·rfl
 ·cases c<;>rfl
theorem aap (n:Nat) (g:Bool) (i j off:Nat):kv σ n g (.ea i j off) K=cs (σ.az i) fun b=>match b with
 |some ⟨_,_,.ints k xs⟩=>off=0∧g=false∧j<xs.length∧K (.d (.int k (xs.getD j 0)))
 |some ⟨_,_,.flts xs⟩=>off=0∧g=false∧j<xs.length∧K (.d (.flt (xs.getD j 0)))
 |some ⟨_,_,.recs _ xs⟩=>j<xs.length∧(if g then off+n≤(xs.getD j []).length∧K (.agg ((((xs.getD j []).drop off).take n).map .d))else
  cs (xs.getD j [])[off]? fun o=>match o with
  |some d=>K (.d d)
  |none=>False)
 |_=>False:=by
 unfold cs
 simp only[kv]
 generalize σ.az i=X
 rcases X with _|⟨f,e,c⟩
 ·rfl
 ·cases c<;>rfl
theorem aaq (x:bB):bz Γ σ K (.xV x)=(RV.cs (σ.a3 x) fun fl=>match fl with
 | .box i o=>K (.box i o)
 | .ea i j o=>K (.ea i j o)
 | .d (.ptr cs)=>K (.d (.ptr cs))
 | .d (.fn f a b)=>K (.d (.fn f a b))
 | .dr f a b=>K (.dr f a b)
 |_=>False):=rfl
theorem acH (op:BinOp) (x y:bB):bz Γ σ K (.bin op x y)=(RV.cs (σ.a3 x) fun fl=>RV.cs (σ.a3 y) fun il=>match fl,il with
 | .d (.int k a),.d (.int eH b)=>(k=eH∨op= .shl∨op= .shr)∧Bp op k a b K
 | .d (.flt a),.d (.flt b)=>Bq op a b K
 |_,_=>False):=rfl
theorem abq (ne:Bool) (x y:bB):bz Γ σ K (.qW ne x y)=(RV.cs (σ.a3 x) fun fl=>RV.cs (σ.a3 y) fun il=>match fl,il with
 | .d (.bool a),.d (.bool b)=>K (.d (.bool (if ne then a !=b else a==b)))
 |_,_=>False):=rfl
theorem acI (ne:Bool) (x y:bB):bz Γ σ K (.w1 ne x y)=(RV.cs (σ.a3 x) fun fl=>RV.cs (σ.a3 y) fun il=>match fl.pair,il.pair with
 |some p,some q=>K (.d (.bool (if ne then !(p.1==q.1 && p.2==q.2)else (p.1==q.1 && p.2==q.2))))
 |_,_=>False):=rfl
theorem adN (op:UnOp) (x:bB):bz Γ σ K (.un op x)=(RV.cs (σ.a3 x) fun fl=>match op,fl with
 | .not,.d (.bool b)=>K (.d (.bool (!b)))
 | .neg,.d (.int k n)=>arith k (0 - n) K
 | .neg,.d (.flt b)=>K (.d (.flt (LI b)))
 |_,_=>False):=rfl
theorem abr (k:IntKind) (x:bB):bz Γ σ K (.conv k x)=(RV.cs (σ.a3 x) fun fl=>match fl with
 | .d (.int _ n)=>arith k n K
 |_=>False):=rfl
theorem aar (x:bB):bz Γ σ K (.wJ x)=(RV.cs (σ.a3 x) fun fl=>match fl with
 | .d (.int _ n)=>K (.d (.flt (aa5 n)))
 | .d (.flt b)=>K (.d (.flt b))
 |_=>False):=rfl
theorem aas (off:Nat) (x:bB):bz Γ σ K (.dD off x)=(RV.cs (σ.a3 x) fun fl=>match fl with
 | .box i o=>K (.box i (o+off))
 | .ea i j o=>K (.ea i j (o+off))
 | .d (.ptr cs)=>K (.d (.ptr (cs.drop off)))
 |_=>False):=rfl
theorem acJ (off n:Nat) (g:Bool) (x:bB):bz Γ σ K (.zI off n g x)=(RV.cs (σ.a3 x) fun fl=>match fl with
 | .agg cs=>if g then off+n≤cs.length∧K (.agg ((cs.drop off).take n))else
   RV.cs (cs[off]?) fun il=>match il with
   |some v=>K v
   |none=>False
 |_=>False):=rfl
theorem aat (sz:Nat) (x i:bB):bz Γ σ K (.u4 sz x i)=(RV.cs (σ.a3 i) fun fl=>match fl with
 | .d (.int _ n)=>RV.cs (σ.a3 x) fun Y=>wF σ sz Y n K
 |_=>False):=rfl
theorem aau (len sz:Nat) (x i:bB):bz Γ σ K (.y8 len sz x i)=(RV.cs (σ.a3 x) fun fl=>RV.cs (σ.a3 i) fun il=>match fl,il with
 | .box b o,.d (.int _ n)=>0≤n∧n<len∧K (.box b (o+n.toNat*sz))
 | .d (.ptr cs),.d (.int _ n)=>0≤n∧n<len∧K (.d (.ptr (cs.drop (n.toNat*sz))))
 |_,_=>False):=rfl
theorem acK (len n:Nat) (g:Bool) (x i:bB):bz Γ σ K (.idx len n g x i)=(RV.cs (σ.a3 x) fun fl=>RV.cs (σ.a3 i) fun il=>match fl,il with
 | .agg cs,.d (.int _ j)=>0≤j∧j<len∧(if g then j.toNat*n+n≤cs.length∧K (.agg ((cs.drop (j.toNat*n)).take n))else
   RV.cs (cs[j.toNat*n]?) fun Wt=>match Wt with
   |some v=>K v
   |none=>False)
 |_,_=>False):=rfl
theorem abt (i:Nat) (x:bB):bz Γ σ K (.sr i x)=(RV.cs (σ.a3 x) fun fl=>match fl with
 | .d (.fh ds)=>RV.cs (ds[i]?) fun il=>match il with
   |some d=>RV.cs (dn d) K
   |none=>False
 |_=>False):=rfl
theorem acL (x:bB):bz Γ σ K (.len x)=(RV.cs (σ.a3 x) fun X=>Dp X K):=rfl
theorem adO (x y:bB):bz Γ σ K (.pS x y)=(RV.cs (σ.a3 x) fun fl=>RV.cs (σ.a3 y) fun il=>match fl,il with
 | .d (.int k a),.d (.int _ b)=>K (.d (.int k (if b>a then b else a)))
 |_,_=>False):=rfl
theorem adP (x y:bB):bz Γ σ K (.Ak x y)=(RV.cs (σ.a3 x) fun fl=>RV.cs (σ.a3 y) fun il=>match fl,il with
 | .d (.int k a),.d (.int _ b)=>K (.d (.int k (if b<a then b else a)))
 |_,_=>False):=rfl
theorem acM (sz:Nat) (x:bB) (lo hi:Option bB):bz Γ σ K (.zJ sz x lo hi)=(RV.cs (σ.a3 x) fun X=>RV.cs (lo.map σ.a3) fun L=>RV.cs (hi.map σ.a3) fun H=>ss σ sz X L H K):=rfl
theorem aav (zero:List D) (parts:List (Nat×Nat×bB)):bz Γ σ K (.build zero parts)=(RV.cs (wK (zero.map .d) (parts.map fun p=>(p.1,p.2.1,σ.a3 p.2.2))) fun fl=>match fl with
 |some cs=>K (.agg cs)
 |none=>False):=rfl
theorem acN (ek:eG) (parts:List bB):bz Γ σ K (.hU ek parts)=(ai.hl (cG σ parts)=true∧RV.cs (toDs σ (cG σ parts)) fun fl=>match fl with
 |some ds=>RV.cs (asSlice ek ds) fun il=>match il with
  |some d=>K (.d d)
  |none=>False
 |none=>False):=rfl
theorem abu (f:Nat) (fst cap:List bB):bz Γ σ K (.zh f fst cap)=(if (ai.hl (cG σ fst) && ai.hl (cG σ cap))=true then
 RV.cs (toDs σ (cG σ fst)) fun fl=>RV.cs (toDs σ (cG σ cap)) fun il=>match fl,il with
 |some a,some b=>K (.d (.fn f a b))
 |_,_=>False
 else K (.dr f (cG σ fst) (cG σ cap))):=rfl
theorem abv (f:Nat) (args:List bB):bz Γ σ K (.call f args)=(RV.cs (toDs σ (cG σ args)) fun fl=>RV.cs (Γ.fn f) fun il=>match fl,il with
 |some ds,some C=>C.pre ds∧((C.res ds).flat=true∨ai.hl (cG σ args)=true)∧RV.cs (C.res ds) fun d=>K (dn d)
 |_,_=>False):=rfl
theorem aaw (x:bB) (args:List bB):bz Γ σ K (.hS x args)=(RV.cs (σ.a3 x) fun fl=>match fl with
 | .d (.fn f fst cap)=>RV.cs (toDs σ (cG σ args)) fun il=>RV.cs (Γ.fn f) fun Wt=>match il,Wt with
   |some ds,some C=>C.pre (fst++ds++cap)∧((C.res (fst++ds++cap)).flat=true∨ai.hl (cG σ args)=true)∧RV.cs (C.res (fst++ds++cap)) fun d=>K (dn d)
   |_,_=>False
 | .dr f fst cap=>RV.cs (Γ.mt f) fun aq9=>match aq9 with
   |some C=>RV.cs (some (fst++cG σ args++cap)) fun Y=>match Y with
    |some vs=>wP C σ K vs
    |none=>False
   |none=>False
 |_=>False):=rfl
theorem abw (C:hg) (vs:List ai):wP C σ K vs=(RV.cs (some (distinct (ai.ic vs))) fun is=>match is with
 |some is=>RV.cs (contents σ (fun _=>false) is) fun X=>match X with
  |some cs=>RV.cs (some (ai.ga (fun i=>b0+placeOf is i) vs)) fun Y=>match Y with
   |some bg=>C.pre bg cs∧C.out bg cs=cs∧RV.cs (C.res bg cs) fun d=>K (dn d)
   |none=>False
  |none=>False
 |none=>False):=rfl
end
section
variable (Γ:Env) (σ:St) (K:St→Prop) (dst:Option Nat)
theorem acO (ek:eG) (zero:List D) (n:bB) (i:Nat):db Γ (some i) σ K (.rq ek zero n)=(RV.cs (σ.a3 n) fun X=>match X with
 | .d (.int _ n)=>RV.cs (uT ek zero n.toNat) fun Y=>match Y with
   |some c=>0≤n∧n≤b4∧K ((σ.fresh i ⟨false,false,c⟩).put (some i) (.own i 0 n.toNat))
   |none=>False
 |_=>False):=by
 simp only[db,RV.cs]
 generalize σ.a3 n=X
 cases X with
 |d z=>cases z<;>rfl
 |_=>rfl
theorem acP (x:bB) (i:Nat):db Γ (some i) σ K (.box x)=(RV.cs (σ.a3 x) fun X=>X.has i=false∧X.cells.all ai.dY=true∧K ((σ.fresh i ⟨false,false,.cells X.cells⟩).put (some i) (.box i 0))):=rfl
theorem aax (zero:List D) (i:Nat):db Γ (some i) σ K (.alloc zero)=K ((σ.fresh i ⟨false,false,.cells (zero.map .d)⟩).put (some i) (.box i 0)):=rfl
theorem acQ (ek:eG) (i:Nat):db Γ (some i) σ K (.nil ek)=K ((σ.fresh i ⟨false,false,r4 ek⟩).put (some i) (.own i 0 0)):=rfl
theorem aay (n:Nat) (a x:bB):db Γ dst σ K (.store n a x)=(RV.cs (σ.a3 a) fun X=>match X with
 | .box i off=>RV.cs (σ.az i) fun Y=>match Y with
   |some ⟨false,e,c⟩=>RV.cs (σ.a3 x) fun Z=>Z.cells.length=n∧Z.cells.all ai.dY=true∧RV.cs (se c off Z.cells) fun U=>match U with
    |some c=>K ((σ.eF i ⟨false,e,c⟩).put dst .dt)
    |none=>False
   |_=>False
 | .ea i j off=>RV.cs (σ.az i) fun Y=>match Y with
   |some ⟨false,e,c⟩=>RV.cs (σ.a3 x) fun Z=>Z.cells.length=n∧Z.cells.all ai.dY=true∧RV.cs (uU c j off Z.cells) fun U=>match U with
    |some c=>K ((σ.eF i ⟨false,e,c⟩).put dst .dt)
    |none=>False
   |_=>False
 |_=>False):=rfl
theorem acR (ek:eG) (x y:bB):db Γ dst σ K (.app ek x y)=(RV.cs (σ.a3 x) fun X=>match X with
 | .own i lo n=>RV.cs (σ.az i) fun Y=>RV.cs (toD σ (σ.a3 y)) fun Z=>match Y,Z with
   |some ⟨false,false,c⟩,some d=>RV.cs (Br c d) fun U=>match U with
    |some c'=>pr (σ.az i)=some ek.sz∧lo=0∧n=c.count∧c'.count≤b4∧K (((σ.forget i).eF i ⟨false,false,c'⟩).put dst (.own i 0 c'.count))
    |none=>False
   |_,_=>False
 |_=>False):=rfl
theorem abx (ek:eG) (x y:bB):db Γ dst σ K (.copy ek x y)=(RV.cs (σ.a3 x) fun X=>match X with
 | .own i lo n=>RV.cs (σ.az i) fun Y=>RV.cs (toD σ (σ.a3 y)) fun Z=>match Y,Z with
   |some ⟨false,e,c⟩,some d=>RV.cs (Ba c lo n d) fun U=>match U with
    |some (c',m)=>pr (σ.az i)=some ek.sz∧K ((σ.eF i ⟨false,e,c'⟩).put dst (.d (.int .i64 m)))
    |none=>False
   |_,_=>False
 |_=>False):=rfl
theorem aaz (f:Nat) (args:List bB):db Γ dst σ K (.call f args)=(RV.cs (cG σ args) fun vs=>sj Γ dst σ K f vs):=rfl
theorem Zl (x:bB) (args:List bB):db Γ dst σ K (.hS x args)=(RV.cs (σ.a3 x) fun X=>match X with
 | .d (.fn f fst cap)=>RV.cs (fst.map dn++cG σ args++cap.map dn) fun vs=>sj Γ dst σ K f vs
 | .dr f fst cap=>RV.cs (fst++cG σ args++cap) fun vs=>sj Γ dst σ K f vs
 |_=>False):=rfl
theorem aaA (f:Nat) (vs:List ai):sj Γ dst σ K f vs=(RV.cs (Γ.mt f) fun X=>match X with
 |some C=>si C dst σ K vs
 |none=>RV.cs (Γ.fn f) fun Y=>match Y with
  |some C=>u5 C dst σ K vs
  |none=>False):=by
 unfold sj RV.cs
 cases Γ.mt f with
 |some C=>rfl
 |none=>cases Γ.fn f<;>rfl
def Qk (C:bC) (dst:Option Nat) (σ:St) (K:St→Prop) (vs:List ai):Prop:=RV.cs (toDs σ vs) fun X=>match X with
    |some ds=>C.pre ds∧RV.cs (C.res ds) fun d=>if (d.flat||ai.hl vs)=true then K (σ.put dst (dn d))
     else pq σ vs=true∧K ((ke σ vs).put dst (dn d))
    |none=>False
def Ql (C:bC) (dst:Option Nat) (σ:St) (K:St→Prop) (vs:List ai):Prop:=RV.cs (toDs σ vs) fun X=>match X with
    |some ds=>C.pre ds∧RV.cs (C.res ds) fun d=>RV.cs (jF d) fun Y=>match dst,Y with
     |some i,some (c,n)=>K ((σ.fresh i ⟨false,false,c⟩).put (some i) (.own i 0 n))
     |_,_=>False
    |none=>False
theorem aaB (C:bC) (vs:List ai) (h:C.own=false):u5 C dst σ K vs=Qk C dst σ K vs:=by
 unfold u5
 simp only[h,Bool.false_eq_true,if_false,Qk,RV.cs]
 rfl
theorem Zm (C:bC) (vs:List ai) (h:C.own=true):u5 C dst σ K vs=Ql C dst σ K vs:=by
 unfold u5
 simp only[h,if_true,Ql,RV.cs]
 rfl
theorem Zn (C:bC) (vs:List ai):Qk C dst σ K vs=(RV.cs (toDs σ vs) fun X=>match X with
 |some ds=>C.pre ds∧RV.cs (C.res ds) fun d=>if (d.flat||ai.hl vs)=true then K (σ.put dst (dn d))
  else pq σ vs=true∧K ((ke σ vs).put dst (dn d))
 |none=>False):=rfl
theorem Zo (C:bC) (vs:List ai):Ql C dst σ K vs=(RV.cs (toDs σ vs) fun X=>match X with
 |some ds=>C.pre ds∧RV.cs (C.res ds) fun d=>RV.cs (jF d) fun Y=>match dst,Y with
  |some i,some (c,n)=>K ((σ.fresh i ⟨false,false,c⟩).put (some i) (.own i 0 n))
  |_,_=>False
 |none=>False):=rfl
theorem aaC (x:bB):db Γ dst σ K (.y9 x)=(RV.cs (σ.a3 x) fun v=>RV.cs (toD σ v) fun X=>match X with
 |some d=>d.Hs=true∧∀b:Bool,(b=true→d.emp=true)→K (σ.put dst (.d (.bool b)))
 |none=>False):=rfl
theorem aby (l:ay) (rs:List bx) (bg:List D) (K:D→Prop):HC Γ l rs bg K=cp Γ l (fun e σ=>match e with
 | .exit _=>False
 |_=>HB rs σ K) (tV bg):=rfl
theorem abz (t:Nat) (K:D→Prop):HB [.tmp t] σ K=(RV.cs (σ.ag t) fun X=>match X with
 | .own i lo n=>RV.cs (σ.az i) fun Y=>match Y with
   |some ⟨false,false,.ints k xs⟩=>lo=0∧xs.length=n∧K (.ints k xs)
   |some ⟨false,false,.flts xs⟩=>lo=0∧xs.length=n∧K (.flts xs)
   |_=>False
 |_=>False):=rfl
theorem aaD (C:hg) (vs:List ai):si C dst σ K vs=(RV.cs (some (reach σ (reach σ (distinct (ai.ic vs))))) fun is=>match is with
 |some is=>wG C dst σ K vs is
 |none=>False):=rfl
theorem Zp (C:hg) (vs:List ai) (is:List Nat):wG C dst σ K vs is=(RV.cs (contents σ (fun i=>is.contains i) is) fun X=>match X with
 |some My=>RV.cs (some (ai.ga (fun i=>b0+placeOf is i) vs,My.map (BC.dG fun i=>b0+placeOf is i))) fun Y=>match Y with
  |some (bg,cs)=>C.pre bg cs∧RV.cs (some (C.out bg cs,C.res bg cs)) fun Z=>match Z with
   |some (o,d)=>o.length=is.length∧o.all (BC.tidy (xX is.length))=true∧K ((hQ σ is (o.map (BC.dG fun i=>is.getD (i - b0) 0))).put dst (dn d))
   |none=>False
  |none=>False
 |none=>False):=rfl
end
section
variable (Γ:Env) (σ:St) (K:St→Prop) (F:ai→Prop) (dst:Option Nat)
theorem adQ (x:bB):db Γ dst σ K (.bj x)=RV.cs (σ.a3 x) fun v=>K (σ.put dst v):=rfl
theorem abA (c x y:bB):db Γ dst σ K (.pick c x y)=bz Γ σ (fun v=>K (σ.put dst v)) (.pick c x y):=rfl
theorem abB (n:Nat) (g:Bool) (x:bB):db Γ dst σ K (.load n g x)=bz Γ σ (fun v=>K (σ.put dst v)) (.load n g x):=rfl
theorem aaE (x:bB):db Γ dst σ K (.xV x)=bz Γ σ (fun v=>K (σ.put dst v)) (.xV x):=rfl
theorem acS (op:BinOp) (x y:bB):db Γ dst σ K (.bin op x y)=bz Γ σ (fun v=>K (σ.put dst v)) (.bin op x y):=rfl
theorem abC (ne:Bool) (x y:bB):db Γ dst σ K (.qW ne x y)=bz Γ σ (fun v=>K (σ.put dst v)) (.qW ne x y):=rfl
theorem acT (ne:Bool) (x y:bB):db Γ dst σ K (.w1 ne x y)=bz Γ σ (fun v=>K (σ.put dst v)) (.w1 ne x y):=rfl
theorem adR (op:UnOp) (x:bB):db Γ dst σ K (.un op x)=bz Γ σ (fun v=>K (σ.put dst v)) (.un op x):=rfl
theorem abD (k:IntKind) (x:bB):db Γ dst σ K (.conv k x)=bz Γ σ (fun v=>K (σ.put dst v)) (.conv k x):=rfl
theorem aaF (x:bB):db Γ dst σ K (.wJ x)=bz Γ σ (fun v=>K (σ.put dst v)) (.wJ x):=rfl
theorem aaG (off:Nat) (x:bB):db Γ dst σ K (.dD off x)=bz Γ σ (fun v=>K (σ.put dst v)) (.dD off x):=rfl
theorem acU (off n:Nat) (g:Bool) (x:bB):db Γ dst σ K (.zI off n g x)=bz Γ σ (fun v=>K (σ.put dst v)) (.zI off n g x):=rfl
theorem aaH (sz:Nat) (x i:bB):db Γ dst σ K (.u4 sz x i)=bz Γ σ (fun v=>K (σ.put dst v)) (.u4 sz x i):=rfl
theorem aaI (len sz:Nat) (x i:bB):db Γ dst σ K (.y8 len sz x i)=bz Γ σ (fun v=>K (σ.put dst v)) (.y8 len sz x i):=rfl
theorem acV (len n:Nat) (g:Bool) (x i:bB):db Γ dst σ K (.idx len n g x i)=bz Γ σ (fun v=>K (σ.put dst v)) (.idx len n g x i):=rfl
theorem abE (i:Nat) (x:bB):db Γ dst σ K (.sr i x)=bz Γ σ (fun v=>K (σ.put dst v)) (.sr i x):=rfl
theorem acW (x:bB):db Γ dst σ K (.len x)=bz Γ σ (fun v=>K (σ.put dst v)) (.len x):=rfl
theorem adS (x y:bB):db Γ dst σ K (.pS x y)=bz Γ σ (fun v=>K (σ.put dst v)) (.pS x y):=rfl
theorem adT (x y:bB):db Γ dst σ K (.Ak x y)=bz Γ σ (fun v=>K (σ.put dst v)) (.Ak x y):=rfl
theorem acX (sz:Nat) (x:bB) (lo hi:Option bB):db Γ dst σ K (.zJ sz x lo hi)=bz Γ σ (fun v=>K (σ.put dst v)) (.zJ sz x lo hi):=rfl
theorem aaJ (zero:List D) (parts:List (Nat×Nat×bB)):db Γ dst σ K (.build zero parts)=bz Γ σ (fun v=>K (σ.put dst v)) (.build zero parts):=rfl
theorem acY (ek:eG) (parts:List bB):db Γ dst σ K (.hU ek parts)=bz Γ σ (fun v=>K (σ.put dst v)) (.hU ek parts):=rfl
theorem abF (f:Nat) (fst cap:List bB):db Γ dst σ K (.zh f fst cap)=bz Γ σ (fun v=>K (σ.put dst v)) (.zh f fst cap):=rfl
end
section
variable (Γ:Env) (σ:St)
theorem abG (x:bB) (K:ai→cr→Prop) (i:Nat):made σ (.box x) K i=(RV.cs (σ.a3 x) fun X=>X.cells.all ai.dY=true∧K (.box i 0) ⟨false,false,.cells X.cells⟩):=rfl
theorem abH (ek:eG) (zero:List D) (n:bB) (K:ai→cr→Prop) (i:Nat):made σ (.rq ek zero n) K i=(RV.cs (σ.a3 n) fun X=>match X with
 | .d (.int _ n)=>RV.cs (uT ek zero n.toNat) fun Y=>match Y with
   |some c=>0≤n∧n≤b4∧K (.own i 0 n.toNat) ⟨false,false,c⟩
   |none=>False
 |_=>False):=rfl
theorem Zq (zero:List D) (K:ai→cr→Prop) (i:Nat):made σ (.alloc zero) K i=K (.box i 0) ⟨false,false,.cells (zero.map .d)⟩:=rfl
theorem abI (ek:eG) (K:ai→cr→Prop) (i:Nat):made σ (.nil ek) K i=K (.own i 0 0) ⟨false,false,r4 ek⟩:=rfl
theorem Zr (n p:Nat) (x:bB) (K:Nat→cr→Prop):stored σ n (.t p) x K=(RV.cs (σ.a3 (.t p)) fun X=>match X with
 | .box i off=>i=p∧RV.cs (σ.az i) fun Y=>match Y with
   |some ⟨false,e,c⟩=>RV.cs (σ.a3 x) fun Z=>Z.cells.length=n∧Z.cells.all ai.dY=true∧RV.cs (se c off Z.cells) fun U=>match U with
    |some c=>K i ⟨false,e,c⟩
    |none=>False
   |_=>False
 |_=>False):=by
 simp only[stored,RV.cs]
 generalize σ.a3 (.t p)=X
 cases X<;>rfl
theorem Ym (n:Nat) (a x:bB) (K:Nat→cr→Prop):wB σ n a x K=(RV.cs (σ.a3 a) fun X=>match X with
 | .box i off=>RV.cs (σ.az i) fun Y=>match Y with
   |some ⟨false,e,c⟩=>RV.cs (σ.a3 x) fun Z=>Z.cells.length=n∧Z.cells.all ai.dY=true∧RV.cs (se c off Z.cells) fun U=>match U with
    |some c=>K i ⟨false,e,c⟩
    |none=>False
   |_=>False
 | .ea i j off=>RV.cs (σ.az i) fun Y=>match Y with
   |some ⟨false,e,c⟩=>RV.cs (σ.a3 x) fun Z=>Z.cells.length=n∧Z.cells.all ai.dY=true∧RV.cs (uU c j off Z.cells) fun U=>match U with
    |some c=>K i ⟨false,e,c⟩
    |none=>False
   |_=>False
 |_=>False):=rfl
theorem Zs (dst:Option Nat) (K:St→Prop) (f:Nat) (as:List bB):za Γ dst [] σ K f as=(RV.cs (Γ.mt f) fun X=>match X with
 |some C=>RV.cs (cG σ as) fun vs=>si C dst σ K vs
 |none=>su Γ dst (.call f as) σ K):=by
 unfold za RV.cs
 cases Γ.mt f<;>rfl
theorem Zt (dst:Option Nat) (K:St→Prop) (i:Nat) (ck:List Nat) (f:Nat) (as:List bB):za Γ dst (i::ck) σ K f as=su Γ dst (.call f as) σ K:=rfl
theorem Yn (n:Nat) (a x:bB) (K:Nat→cr→Prop):uO [] σ n a x K=wB σ n a x K:=rfl
theorem Yo (i:Nat) (ck:List Nat) (n:Nat) (a x:bB) (K:Nat→cr→Prop):uO (i::ck) σ n a x K=stored σ n a x K:=rfl
theorem abJ (rs:List bx) (K:D→Prop):kA rs σ K=(RV.cs (tA σ rs) fun X=>match X with
 |some vs=>pq σ vs=true∧RV.cs (toDs σ vs) fun Y=>match Y with
  |some ds=>K (zi ds)
  |none=>False
 |none=>False):=rfl
theorem fU (l:ay) (rs:List bx) (args:List D) (K:D→Prop):bT Γ l rs args K=cp Γ l (fun e σ=>match e with| .exit _=>False|_=>kA rs σ K) (tV args):=rfl
theorem abK (l:ay) (rs:List bx) (bg:List ai) (cs:List BC) (K:D→List BC→Prop):vk Γ l rs bg cs K=cp Γ l (fun e σ=>match e with
 | .exit _=>False
 |_=>kA rs σ fun d=>RV.cs (uV σ cs.length 0 cs.length) fun X=>match X with
  |some cs'=>K d cs'
  |none=>False) (wQ bg cs):=rfl
theorem abL (args:List D) (t:Nat):(tV args).ag t=match args[t]? with|some d=>dn d|none=> .dt:=rfl
theorem abM (args:List D) (t:Nat):(tV args).az t=none:=rfl
theorem aaK (args:List ai) (cs:List BC) (t:Nat):(wQ args cs).ag t=match args[t]? with|some d=>d|none=> .dt:=rfl
theorem PR (args:List ai) (cs:List BC) (t:Nat):(wQ args cs).az t=if b0≤t then (cs[t - b0]?).map (fun c=>⟨false,true,c⟩)else none:=rfl
theorem Zu (args:List ai) (cs:List BC) (t:Nat):(wQ args cs).az (b0+t)=(cs[t]?).map (fun c=>⟨false,true,c⟩):=by
 rw[PR,if_pos (Nat.le_add_right _ _),Nat.add_sub_cancel_left]
end
abbrev Env.has (Γ:Env) (f:Nat) (C:bC):Prop:=Γ.fn f=some C∧Γ.mt f=none∧C.own=false
theorem abN (F:Option (BC)→Prop):cs none F=F none:=rfl
theorem abO (F:Option (BC)→Prop) (a:BC):cs (some a) F=F (some a):=rfl
theorem abP (F:Option (cr)→Prop):cs none F=F none:=rfl
theorem abQ (F:Option (cr)→Prop) (a:cr):cs (some a) F=F (some a):=rfl
theorem acZ (F:Option (D)→Prop):cs none F=F none:=rfl
theorem ac0 (F:Option (D)→Prop) (a:D):cs (some a) F=F (some a):=rfl
theorem abR (F:Option (List D)→Prop):cs none F=F none:=rfl
theorem abS (F:Option (List D)→Prop) (a:List D):cs (some a) F=F (some a):=rfl
theorem abT (F:Option (ai)→Prop):cs none F=F none:=rfl
theorem abU (F:Option (ai)→Prop) (a:ai):cs (some a) F=F (some a):=rfl
theorem aaL (F:Option (List ai)→Prop):cs none F=F none:=rfl
theorem aaM (F:Option (List ai)→Prop) (a:List ai):cs (some a) F=F (some a):=rfl
theorem aaN (F:Option (List BC)→Prop):cs none F=F none:=rfl
theorem aaO (F:Option (List BC)→Prop) (a:List BC):cs (some a) F=F (some a):=rfl
theorem abV (F:Option (bC)→Prop):cs none F=F none:=rfl
theorem abW (F:Option (bC)→Prop) (a:bC):cs (some a) F=F (some a):=rfl
theorem abX (F:Option (hg)→Prop):cs none F=F none:=rfl
theorem abY (F:Option (hg)→Prop) (a:hg):cs (some a) F=F (some a):=rfl
theorem abZ (F:Option (BC×Nat)→Prop):cs none F=F none:=rfl
theorem ab0 (F:Option (BC×Nat)→Prop) (a:BC×Nat):cs (some a) F=F (some a):=rfl
theorem ab1 (F:Option (List Nat)→Prop):cs none F=F none:=rfl
theorem ab2 (F:Option (List Nat)→Prop) (a:List Nat):cs (some a) F=F (some a):=rfl
theorem ab3 (F:Option (List ai×List BC)→Prop):cs none F=F none:=rfl
theorem ab4 (F:Option (List ai×List BC)→Prop) (a:List ai×List BC):cs (some a) F=F (some a):=rfl
theorem ab5 (F:Option (List BC×D)→Prop):cs none F=F none:=rfl
theorem ab6 (F:Option (List BC×D)→Prop) (a:List BC×D):cs (some a) F=F (some a):=rfl
theorem aaP (F:List ai→Prop):cs [] F=F []:=rfl
theorem Zv (F:List ai→Prop) (a:ai) (l:List ai):cs (a::l) F=F (a::l):=rfl
theorem al:type_of% (And.intro @G1<|And.intro @Lm<|And.intro @uQ<|And.intro @Hf<|And.intro @abm<|And.intro @k3<|And.intro @aag<|And.intro @abd<|And.intro @Zc<|And.intro @adL<|And.intro @acF<|And.intro @Zd<|And.intro @acG<|And.intro @abn<|And.intro @adK<|And.intro @abe<|And.intro @abf<|And.intro @abg<|And.intro @abh<|And.intro @abi<|And.intro @abj<|And.intro @abk<|And.intro @aah<|And.intro @Ze<|And.intro @aai<|And.intro @Zf<|And.intro @aaj<|And.intro @Zg<|And.intro @Zh<|And.intro @Zi<|And.intro @aak<|And.intro @aal<|And.intro @aam<|And.intro @abl<|And.intro @Yl<|And.intro @Zj<|And.intro @adM<|And.intro @abo<|And.intro @abp<|And.intro @aan<|And.intro @aao<|And.intro @aap<|And.intro @aaq<|And.intro @acH<|And.intro @abq<|And.intro @acI<|And.intro @adN<|And.intro @abr<|And.intro @aar<|And.intro @aas<|And.intro @acJ<|And.intro @aat<|And.intro @aau<|And.intro @acK<|And.intro @abt<|And.intro @acL<|And.intro @adO<|And.intro @adP<|And.intro @acM<|And.intro @aav<|And.intro @acN<|And.intro @abu<|And.intro @abv<|And.intro @aaw<|And.intro @acO<|And.intro @acP<|And.intro @aax<|And.intro @acQ<|And.intro @aay<|And.intro @acR<|And.intro @abx<|And.intro @Ym<|And.intro @Yn<|And.intro @Zs<|And.intro @Zt<|And.intro @Yo<|And.intro @aaC<|And.intro @aby<|And.intro @abz<|And.intro @aaz<|And.intro @Zl<|And.intro @aaA<|And.intro @aaB<|And.intro @Zm<|And.intro @Zn<|And.intro @Zo<|And.intro @aaD<|And.intro @Zp<|And.intro @abw<|And.intro @adQ<|And.intro @abA<|And.intro @abB<|And.intro @aaE<|And.intro @acS<|And.intro @abC<|And.intro @acT<|And.intro @adR<|And.intro @abD<|And.intro @aaF<|And.intro @aaG<|And.intro @acU<|And.intro @aaH<|And.intro @aaI<|And.intro @acV<|And.intro @abE<|And.intro @acW<|And.intro @adS<|And.intro @adT<|And.intro @acX<|And.intro @aaJ<|And.intro @acY<|And.intro @abF<|And.intro @abG<|And.intro @abH<|And.intro @Zq<|And.intro @abI<|And.intro @Zr<|And.intro @abJ<|And.intro @fU<|And.intro @abK<|And.intro @abL<|And.intro @abM<|And.intro @aaK<|And.intro @PR<|And.intro @Zu<|And.intro @Dp.eq_def<|And.intro @wF.eq_def<|And.intro @ss.eq_def<|And.intro @bound.eq_def<|And.intro @Bp.eq_def<|And.intro @arith.eq_def<|And.intro @Bq.eq_def<|And.intro @tU.eq_def<|And.intro @su.eq_def<|And.intro @Dc.eq_def<|And.intro @Ln<|And.intro @K1<|And.intro @K2<|And.intro @K3<|And.intro @KQ<|And.intro @KR<|And.intro @KD<|And.intro @KE<|And.intro @Ko<|And.intro @Lo<|And.intro @K4<|And.intro @Lp<|And.intro @Lq<|And.intro @abN<|And.intro @abO<|And.intro @abP<|And.intro @abQ<|And.intro @acZ<|And.intro @ac0<|And.intro @abR<|And.intro @abS<|And.intro @abT<|And.intro @abU<|And.intro @aaL<|And.intro @aaM<|And.intro @aaN<|And.intro @aaO<|And.intro @abV<|And.intro @abW<|And.intro @abX<|And.intro @abY<|And.intro @abZ<|And.intro @ab0<|And.intro @ab1<|And.intro @ab2<|And.intro @ab3<|And.intro @ab4<|And.intro @ab5<|And.intro @ab6<|And.intro @aaP<| @Zv):=
 And.intro @G1<|And.intro @Lm<|And.intro @uQ<|And.intro @Hf<|And.intro @abm<|And.intro @k3<|And.intro @aag<|And.intro @abd<|And.intro @Zc<|And.intro @adL<|And.intro @acF<|And.intro @Zd<|And.intro @acG<|And.intro @abn<|And.intro @adK<|And.intro @abe<|And.intro @abf<|And.intro @abg<|And.intro @abh<|And.intro @abi<|And.intro @abj<|And.intro @abk<|And.intro @aah<|And.intro @Ze<|And.intro @aai<|And.intro @Zf<|And.intro @aaj<|And.intro @Zg<|And.intro @Zh<|And.intro @Zi<|And.intro @aak<|And.intro @aal<|And.intro @aam<|And.intro @abl<|And.intro @Yl<|And.intro @Zj<|And.intro @adM<|And.intro @abo<|And.intro @abp<|And.intro @aan<|And.intro @aao<|And.intro @aap<|And.intro @aaq<|And.intro @acH<|And.intro @abq<|And.intro @acI<|And.intro @adN<|And.intro @abr<|And.intro @aar<|And.intro @aas<|And.intro @acJ<|And.intro @aat<|And.intro @aau<|And.intro @acK<|And.intro @abt<|And.intro @acL<|And.intro @adO<|And.intro @adP<|And.intro @acM<|And.intro @aav<|And.intro @acN<|And.intro @abu<|And.intro @abv<|And.intro @aaw<|And.intro @acO<|And.intro @acP<|And.intro @aax<|And.intro @acQ<|And.intro @aay<|And.intro @acR<|And.intro @abx<|And.intro @Ym<|And.intro @Yn<|And.intro @Zs<|And.intro @Zt<|And.intro @Yo<|And.intro @aaC<|And.intro @aby<|And.intro @abz<|And.intro @aaz<|And.intro @Zl<|And.intro @aaA<|And.intro @aaB<|And.intro @Zm<|And.intro @Zn<|And.intro @Zo<|And.intro @aaD<|And.intro @Zp<|And.intro @abw<|And.intro @adQ<|And.intro @abA<|And.intro @abB<|And.intro @aaE<|And.intro @acS<|And.intro @abC<|And.intro @acT<|And.intro @adR<|And.intro @abD<|And.intro @aaF<|And.intro @aaG<|And.intro @acU<|And.intro @aaH<|And.intro @aaI<|And.intro @acV<|And.intro @abE<|And.intro @acW<|And.intro @adS<|And.intro @adT<|And.intro @acX<|And.intro @aaJ<|And.intro @acY<|And.intro @abF<|And.intro @abG<|And.intro @abH<|And.intro @Zq<|And.intro @abI<|And.intro @Zr<|And.intro @abJ<|And.intro @fU<|And.intro @abK<|And.intro @abL<|And.intro @abM<|And.intro @aaK<|And.intro @PR<|And.intro @Zu<|And.intro @Dp.eq_def<|And.intro @wF.eq_def<|And.intro @ss.eq_def<|And.intro @bound.eq_def<|And.intro @Bp.eq_def<|And.intro @arith.eq_def<|And.intro @Bq.eq_def<|And.intro @tU.eq_def<|And.intro @su.eq_def<|And.intro @Dc.eq_def<|And.intro @Ln<|And.intro @K1<|And.intro @K2<|And.intro @K3<|And.intro @KQ<|And.intro @KR<|And.intro @KD<|And.intro @KE<|And.intro @Ko<|And.intro @Lo<|And.intro @K4<|And.intro @Lp<|And.intro @Lq<|And.intro @abN<|And.intro @abO<|And.intro @abP<|And.intro @abQ<|And.intro @acZ<|And.intro @ac0<|And.intro @abR<|And.intro @abS<|And.intro @abT<|And.intro @abU<|And.intro @aaL<|And.intro @aaM<|And.intro @aaN<|And.intro @aaO<|And.intro @abV<|And.intro @abW<|And.intro @abX<|And.intro @abY<|And.intro @abZ<|And.intro @ab0<|And.intro @ab1<|And.intro @ab2<|And.intro @ab3<|And.intro @ab4<|And.intro @ab5<|And.intro @ab6<|And.intro @aaP<| @Zv
theorem afG:type_of% (And.intro @ai.pair.eq_def<|And.intro @pr.eq_def<|And.intro @eG.sz.eq_def<|And.intro @cr.kill.eq_def<|And.intro @BC.kill.eq_def<|And.intro @ai.cells.eq_def<|And.intro @se.eq_def<|And.intro @uU.eq_def<|And.intro @Br.eq_def<|And.intro @Ba.eq_def<|And.intro @uT.eq_def<|And.intro @r4.eq_def<|And.intro @BC.count.eq_def<|And.intro @BC.part.eq_def<|And.intro @ai.Hr.eq_def<|And.intro @zi.eq_def<|And.intro @BC.pure.eq_def<|And.intro @BC.tidy.eq_def<|And.intro @BC.dG.eq_def<|And.intro @reach.eq_def<|And.intro @xX.eq_def<|And.intro @bJ.makes.eq_def<|And.intro @AW.eq_def<|And.intro @bJ.ops.eq_def<|And.intro @asSlice.eq_def<|And.intro @cG.eq_def<|And.intro @Dq.eq_def<|And.intro @dn.eq_def<|And.intro @jF.eq_def<|And.intro @D.emp.eq_def<|And.intro @D.Hs.eq_def<|And.intro @AL.eq_def<| @over.eq_def):=
 And.intro @ai.pair.eq_def<|And.intro @pr.eq_def<|And.intro @eG.sz.eq_def<|And.intro @cr.kill.eq_def<|And.intro @BC.kill.eq_def<|And.intro @ai.cells.eq_def<|And.intro @se.eq_def<|And.intro @uU.eq_def<|And.intro @Br.eq_def<|And.intro @Ba.eq_def<|And.intro @uT.eq_def<|And.intro @r4.eq_def<|And.intro @BC.count.eq_def<|And.intro @BC.part.eq_def<|And.intro @ai.Hr.eq_def<|And.intro @zi.eq_def<|And.intro @BC.pure.eq_def<|And.intro @BC.tidy.eq_def<|And.intro @BC.dG.eq_def<|And.intro @reach.eq_def<|And.intro @xX.eq_def<|And.intro @bJ.makes.eq_def<|And.intro @AW.eq_def<|And.intro @bJ.ops.eq_def<|And.intro @asSlice.eq_def<|And.intro @cG.eq_def<|And.intro @Dq.eq_def<|And.intro @dn.eq_def<|And.intro @jF.eq_def<|And.intro @D.emp.eq_def<|And.intro @D.Hs.eq_def<|And.intro @AL.eq_def<| @over.eq_def
theorem afH:type_of% (And.intro @ai.has.eq_1<|And.intro @ai.has.eq_2<|And.intro @ai.has.eq_3<|And.intro @ai.has.eq_4<|And.intro @ai.has.eq_5<|And.intro @ai.has.eq_6<|And.intro @ai.cY.eq_1<|And.intro @ai.cY.eq_2<|And.intro @sb.eq_1<|And.intro @sb.eq_2<|And.intro @tA.eq_1<|And.intro @tA.eq_2<|And.intro @pq.eq_1<|And.intro @pq.eq_2<|And.intro @kc.eq_1<|And.intro @kc.eq_2<|And.intro @kc.eq_3<|And.intro @kc.eq_4<|And.intro @kc.eq_5<|And.intro @kc.eq_6<|And.intro @uV.eq_1<|And.intro @uV.eq_2<|And.intro @ai.pure.eq_1<|And.intro @ai.pure.eq_2<|And.intro @ai.pure.eq_3<|And.intro @ai.pure.eq_4<|And.intro @ai.hl.eq_1<|And.intro @ai.hl.eq_2<|And.intro @ai.tidy.eq_1<|And.intro @ai.tidy.eq_2<|And.intro @ai.tidy.eq_3<|And.intro @ai.tidy.eq_4<|And.intro @ai.tidy.eq_5<|And.intro @ai.ht.eq_1<|And.intro @ai.ht.eq_2<|And.intro @contents.eq_1<|And.intro @contents.eq_2<|And.intro @hQ.eq_1<|And.intro @hQ.eq_2<|And.intro @distinct.eq_1<|And.intro @distinct.eq_2<|And.intro @ai.ids.eq_1<|And.intro @ai.ids.eq_2<|And.intro @ai.ids.eq_3<|And.intro @ai.ids.eq_4<|And.intro @ai.ids.eq_5<|And.intro @ai.ids.eq_6<|And.intro @ai.ic.eq_1<|And.intro @ai.ic.eq_2<|And.intro @ai.dG.eq_1<|And.intro @ai.dG.eq_2<|And.intro @ai.dG.eq_3<|And.intro @ai.dG.eq_4<|And.intro @ai.dG.eq_5<|And.intro @ai.dG.eq_6<|And.intro @ai.ga.eq_1<|And.intro @ai.ga.eq_2<|And.intro @placeOf.eq_1<|And.intro @placeOf.eq_2<|And.intro @k8.eq_1<|And.intro @k8.eq_2<|And.intro @D.flat.eq_1<|And.intro @D.flat.eq_2<|And.intro @D.flat.eq_3<|And.intro @D.flat.eq_4<|And.intro @D.flat.eq_5<|And.intro @D.flat.eq_6<|And.intro @D.xW.eq_1<|And.intro @D.xW.eq_2<|And.intro @ke.eq_1<|And.intro @ke.eq_2<|And.intro @h7.eq_1<|And.intro @h7.eq_2<|And.intro @h7.eq_3<|And.intro @h7.eq_4<|And.intro @h7.eq_5<|And.intro @h7.eq_6<|And.intro @wK.eq_1<|And.intro @wK.eq_2<|And.intro @sc.eq_1<|And.intro @sc.eq_2<|And.intro @sc.eq_3<|And.intro @sd.eq_1<|And.intro @sd.eq_2<|And.intro @sd.eq_3<|And.intro @ka.eq_1<|And.intro @ka.eq_2<|And.intro @ka.eq_3<|And.intro @toD.eq_1<|And.intro @toD.eq_2<|And.intro @toD.eq_3<|And.intro @toD.eq_4<|And.intro @toD.eq_5<|And.intro @toD.eq_6<|And.intro @toDs.eq_1<| @toDs.eq_2):=
 And.intro @ai.has.eq_1<|And.intro @ai.has.eq_2<|And.intro @ai.has.eq_3<|And.intro @ai.has.eq_4<|And.intro @ai.has.eq_5<|And.intro @ai.has.eq_6<|And.intro @ai.cY.eq_1<|And.intro @ai.cY.eq_2<|And.intro @sb.eq_1<|And.intro @sb.eq_2<|And.intro @tA.eq_1<|And.intro @tA.eq_2<|And.intro @pq.eq_1<|And.intro @pq.eq_2<|And.intro @kc.eq_1<|And.intro @kc.eq_2<|And.intro @kc.eq_3<|And.intro @kc.eq_4<|And.intro @kc.eq_5<|And.intro @kc.eq_6<|And.intro @uV.eq_1<|And.intro @uV.eq_2<|And.intro @ai.pure.eq_1<|And.intro @ai.pure.eq_2<|And.intro @ai.pure.eq_3<|And.intro @ai.pure.eq_4<|And.intro @ai.hl.eq_1<|And.intro @ai.hl.eq_2<|And.intro @ai.tidy.eq_1<|And.intro @ai.tidy.eq_2<|And.intro @ai.tidy.eq_3<|And.intro @ai.tidy.eq_4<|And.intro @ai.tidy.eq_5<|And.intro @ai.ht.eq_1<|And.intro @ai.ht.eq_2<|And.intro @contents.eq_1<|And.intro @contents.eq_2<|And.intro @hQ.eq_1<|And.intro @hQ.eq_2<|And.intro @distinct.eq_1<|And.intro @distinct.eq_2<|And.intro @ai.ids.eq_1<|And.intro @ai.ids.eq_2<|And.intro @ai.ids.eq_3<|And.intro @ai.ids.eq_4<|And.intro @ai.ids.eq_5<|And.intro @ai.ids.eq_6<|And.intro @ai.ic.eq_1<|And.intro @ai.ic.eq_2<|And.intro @ai.dG.eq_1<|And.intro @ai.dG.eq_2<|And.intro @ai.dG.eq_3<|And.intro @ai.dG.eq_4<|And.intro @ai.dG.eq_5<|And.intro @ai.dG.eq_6<|And.intro @ai.ga.eq_1<|And.intro @ai.ga.eq_2<|And.intro @placeOf.eq_1<|And.intro @placeOf.eq_2<|And.intro @k8.eq_1<|And.intro @k8.eq_2<|And.intro @D.flat.eq_1<|And.intro @D.flat.eq_2<|And.intro @D.flat.eq_3<|And.intro @D.flat.eq_4<|And.intro @D.flat.eq_5<|And.intro @D.flat.eq_6<|And.intro @D.xW.eq_1<|And.intro @D.xW.eq_2<|And.intro @ke.eq_1<|And.intro @ke.eq_2<|And.intro @h7.eq_1<|And.intro @h7.eq_2<|And.intro @h7.eq_3<|And.intro @h7.eq_4<|And.intro @h7.eq_5<|And.intro @h7.eq_6<|And.intro @wK.eq_1<|And.intro @wK.eq_2<|And.intro @sc.eq_1<|And.intro @sc.eq_2<|And.intro @sc.eq_3<|And.intro @sd.eq_1<|And.intro @sd.eq_2<|And.intro @sd.eq_3<|And.intro @ka.eq_1<|And.intro @ka.eq_2<|And.intro @ka.eq_3<|And.intro @toD.eq_1<|And.intro @toD.eq_2<|And.intro @toD.eq_3<|And.intro @toD.eq_4<|And.intro @toD.eq_5<|And.intro @toD.eq_6<|And.intro @toDs.eq_1<| @toDs.eq_2
theorem afI:type_of% (And.intro @YU<|And.intro @Yf<|And.intro @YV<|And.intro @Yg<|And.intro @Yh<|And.intro @Yi<|And.intro @YW<|And.intro @aaf<|And.intro @XT<|And.intro @Yj<|And.intro @YX<|And.intro @YY<|And.intro @Yk<|And.intro @YZ<|And.intro @Y0<|And.intro @Y1<|And.intro @Y2<|And.intro @Y3<|And.intro @Y4<|And.intro @abb<|And.intro @Y5<|And.intro @Y6<|And.intro @Y7<|And.intro @Y8<|And.intro @Y9<|And.intro @Za<|And.intro @Zb<|And.intro @List.getElem?_cons_zero.{0} <|And.intro @List.getElem?_cons_succ.{0} <|And.intro @List.getElem?_nil.{0} <|And.intro @true_or<|And.intro @or_true<|And.intro @false_or<|And.intro @or_false<|And.intro @true_and<|And.intro @and_true<|And.intro @false_and<|And.intro @and_false<|And.intro @Nat.sub_self<|And.intro @Option.map_some.{0,0} <|And.intro @Option.map_none.{0,0} <|And.intro @Nat.le_refl<|And.intro @List.length_cons.{0} <|And.intro @List.length_nil.{0} <|And.intro @List.all_cons.{0} <|And.intro @List.all_nil.{0} <|And.intro @Bool.and_true<|And.intro @Bool.true_and<|And.intro @Bool.and_false<|And.intro @Bool.false_and<|And.intro @Bool.or_true<|And.intro @Bool.or_false<|And.intro @Bool.true_or<|And.intro @Bool.false_or<|And.intro @Bool.not_true<|And.intro @Bool.not_false<|And.intro @Bool.false_eq_true<|And.intro @List.take_zero.{0} <|And.intro @List.drop_zero.{0} <|And.intro @List.take_succ_cons.{0} <|And.intro @List.drop_succ_cons.{0} <|And.intro @List.drop_nil.{0} <|And.intro @List.take_nil.{0} <|And.intro @List.nil_append.{0} <|And.intro @List.append_nil.{0} <|And.intro @List.cons_append.{0} <|And.intro @List.map_cons.{0,0} <|And.intro @List.map_nil.{0,0} <|And.intro @Nat.zero_add<|And.intro @Nat.add_zero<|And.intro @List.filter_nil.{0} <|And.intro @List.filter_cons.{0} <|And.intro @Nat.min_def<|And.intro @eq_self.{1} <|And.intro @forall_const.{1} <|And.intro @false_implies<|And.intro @implies_true.{1} <|And.intro @not_false_eq_true<|And.intro @ne_eq.{1} <|And.intro @not_true_eq_false<|And.intro @bne_self_eq_false.{0} <|And.intro @beq_self_eq_true.{0} <|And.intro @List.length_replicate.{0} <|And.intro @List.set_cons_zero.{0} <|And.intro @List.set_cons_succ.{0} <|And.intro @true_implies<|And.intro @decide_eq_true_eq<|And.intro @decide_eq_false_iff_not<|And.intro @Int.toNat_natCast<|And.intro @ai.d.injEq<|And.intro @D.int.injEq<|And.intro @D.bool.injEq<|And.intro @D.flt.injEq<|And.intro @D.ints.injEq<|And.intro @List.head?_cons.{0} <|And.intro @List.head?_nil.{0} <| @List.append_assoc.{0}):=
 And.intro @YU<|And.intro @Yf<|And.intro @YV<|And.intro @Yg<|And.intro @Yh<|And.intro @Yi<|And.intro @YW<|And.intro @aaf<|And.intro @XT<|And.intro @Yj<|And.intro @YX<|And.intro @YY<|And.intro @Yk<|And.intro @YZ<|And.intro @Y0<|And.intro @Y1<|And.intro @Y2<|And.intro @Y3<|And.intro @Y4<|And.intro @abb<|And.intro @Y5<|And.intro @Y6<|And.intro @Y7<|And.intro @Y8<|And.intro @Y9<|And.intro @Za<|And.intro @Zb<|And.intro @List.getElem?_cons_zero.{0} <|And.intro @List.getElem?_cons_succ.{0} <|And.intro @List.getElem?_nil.{0} <|And.intro @true_or<|And.intro @or_true<|And.intro @false_or<|And.intro @or_false<|And.intro @true_and<|And.intro @and_true<|And.intro @false_and<|And.intro @and_false<|And.intro @Nat.sub_self<|And.intro @Option.map_some.{0,0} <|And.intro @Option.map_none.{0,0} <|And.intro @Nat.le_refl<|And.intro @List.length_cons.{0} <|And.intro @List.length_nil.{0} <|And.intro @List.all_cons.{0} <|And.intro @List.all_nil.{0} <|And.intro @Bool.and_true<|And.intro @Bool.true_and<|And.intro @Bool.and_false<|And.intro @Bool.false_and<|And.intro @Bool.or_true<|And.intro @Bool.or_false<|And.intro @Bool.true_or<|And.intro @Bool.false_or<|And.intro @Bool.not_true<|And.intro @Bool.not_false<|And.intro @Bool.false_eq_true<|And.intro @List.take_zero.{0} <|And.intro @List.drop_zero.{0} <|And.intro @List.take_succ_cons.{0} <|And.intro @List.drop_succ_cons.{0} <|And.intro @List.drop_nil.{0} <|And.intro @List.take_nil.{0} <|And.intro @List.nil_append.{0} <|And.intro @List.append_nil.{0} <|And.intro @List.cons_append.{0} <|And.intro @List.map_cons.{0,0} <|And.intro @List.map_nil.{0,0} <|And.intro @Nat.zero_add<|And.intro @Nat.add_zero<|And.intro @List.filter_nil.{0} <|And.intro @List.filter_cons.{0} <|And.intro @Nat.min_def<|And.intro @eq_self.{1} <|And.intro @forall_const.{1} <|And.intro @false_implies<|And.intro @implies_true.{1} <|And.intro @not_false_eq_true<|And.intro @ne_eq.{1} <|And.intro @not_true_eq_false<|And.intro @bne_self_eq_false.{0} <|And.intro @beq_self_eq_true.{0} <|And.intro @List.length_replicate.{0} <|And.intro @List.set_cons_zero.{0} <|And.intro @List.set_cons_succ.{0} <|And.intro @true_implies<|And.intro @decide_eq_true_eq<|And.intro @decide_eq_false_iff_not<|And.intro @Int.toNat_natCast<|And.intro @ai.d.injEq<|And.intro @D.int.injEq<|And.intro @D.bool.injEq<|And.intro @D.flt.injEq<|And.intro @D.ints.injEq<|And.intro @List.head?_cons.{0} <|And.intro @List.head?_nil.{0} <| @List.append_assoc.{0}
end RV
namespace RV
def ao (n:Nat):List Int:=if h:n=0 then []else ((n % 16777216:Nat):Int)::ao (n / 16777216)
termination_by n
decreasing_by exact Nat.div_lt_self (Nat.pos_of_ne_zero h) (by decide)
def val:List Int→Nat
 |[]=>0
 |x::xs=>x.toNat+16777216*val xs
def ca (xs:List Int):Prop:=∀x∈xs,0≤x∧x<16777216
theorem hk:ao 0=[]:=by unfold ao;simp
theorem xK {n:Nat} (h:n≠0):ao n=((n % 16777216:Nat):Int)::ao (n / 16777216):=by
 conv=>lhs;unfold ao
 rw[dif_neg h]
theorem b5 (n:Nat):val (ao n)=n:=by
 induction n using Nat.strongRecOn with
 |_ n cM=>
  by_cases h:n=0
  ·subst h;rw[hk];rfl
  ·rw[xK h,val,cM (n / 16777216) (Nat.div_lt_self (Nat.pos_of_ne_zero h) (by decide))]
   omega
theorem c5 (n:Nat):ca (ao n):=by
 induction n using Nat.strongRecOn with
 |_ n cM=>
  by_cases h:n=0
  ·subst h;rw[hk];intro x aj;cases aj
  ·rw[xK h]
   intro x aj
   rcases List.mem_cons.1 aj with rfl|aj
   ·omega
   ·exact cM (n / 16777216) (Nat.div_lt_self (Nat.pos_of_ne_zero h) (by decide)) x aj
theorem Yp {n:Nat} (h:ao n=[]):n=0:=by
 have:=b5 n
 rw[h]at this
 exact this.symm
theorem ca.tail {x:Int} {xs:List Int} (h:ca (x::xs)):ca xs:=fun y hy=>h y (List.mem_cons_of_mem _ hy)
theorem ca.head {x:Int} {xs:List Int} (h:ca (x::xs)):0≤x∧x<16777216:=h x (by simp)
theorem ca.append {xs aB:List Int} (h:ca xs) (k:ca aB):ca (xs++aB):=fun x aj=>(List.mem_append.1 aj).elim (h x) (k x)
theorem ca.take {xs:List Int} (h:ca xs) (n:Nat):ca (xs.take n):=fun x aj=>h x (List.mem_of_mem_take aj)
theorem ca.drop {xs:List Int} (h:ca xs) (n:Nat):ca (xs.drop n):=fun x aj=>h x (List.mem_of_mem_drop aj)
theorem ca.get {xs:List Int} (h:ca xs) {i:Nat} (hi:i<xs.length):0≤xs.getD i 0∧xs.getD i 0<16777216:=by
 rw[List.getD_eq_getElem?_getD,List.getElem?_eq_getElem hi]
 exact h _ (List.getElem_mem hi)
theorem Kp:∀(xs aB:List Int),val (xs++aB)=val xs+16777216^xs.length*val aB
 |[],aB=>by simp[val]
 |x::xs,aB=>by
  rw[List.cons_append,val,val,Kp xs aB,List.length_cons,Nat.pow_succ]
  rw[Nat.mul_add,Nat.add_assoc,Nat.mul_assoc,Nat.mul_left_comm]
theorem kb:∀{xs:List Int},ca xs→val xs<16777216^xs.length
 |[],_=>by simp[val]
 |x::xs,h=>by
  have:=kb h.tail
  have:=h.head
  rw[val,List.length_cons,Nat.pow_succ]
  omega
theorem Pa:∀{xs:List Int},ca xs→(∀x,xs.getLast? =some x→x≠0)→ao (val xs)=xs
 |[],_,_=>hk
 |[x],h,aJ=>by
  have:=h.head
  have:=aJ x rfl
  rw[val,val]
  rw[xK (by omega)]
  have h1:(x.toNat+16777216*0) / 16777216=0:=by omega
  have h2:(((x.toNat+16777216*0) % 16777216:Nat):Int)=x:=by omega
  rw[h1,h2,hk]
 |x::y::aB,h,aJ=>by
  have cM:=Pa h.tail (fun z br=>aJ z (by simpa [List.getLast?_cons_cons]using br))
  have aj:=h.head
  have eZ:val (y::aB)≠0:=fun e=>by rw[e,hk]at cM;cases cM
  rw[val,xK (by omega)]
  have h1:(x.toNat+16777216*val (y::aB)) / 16777216=val (y::aB):=by omega
  have h2:(((x.toNat+16777216*val (y::aB)) % 16777216:Nat):Int)=x:=by omega
  rw[h1,h2,cM]
theorem ai1 {n:Nat} :∀x,(ao n).getLast? =some x→x≠0:=by
 induction n using Nat.strongRecOn with
 |_ n cM=>
  intro x aj
  by_cases h:n=0
  ·subst h;rw[hk]at aj;cases aj
  ·rw[xK h]at aj
   by_cases h2:n / 16777216=0
   ·rw[h2,hk]at aj
    simp only[List.getLast?_singleton,Option.some.injEq]at aj
    omega
   ·have au:ao (n / 16777216)≠[]:=fun e=>h2 (Yp e)
    cases aJ:ao (n / 16777216)with
    |nil=>exact absurd aJ au
    |cons y aB=>
     rw[aJ,List.getLast?_cons_cons]at aj
     exact cM (n / 16777216) (Nat.div_lt_self (Nat.pos_of_ne_zero h) (by decide)) x (by rw[aJ];exact aj)
theorem CO:∀(k:Nat),val (List.replicate k 0)=0
 |0=>rfl
 |k+1=>by rw[List.replicate_succ,val,CO k];rfl
theorem ahQ (xs:List Int):val (xs++[0])=val xs:=by rw[Kp];simp[val]
theorem Kq {xs:List Int} (h:ca xs) {n:Nat} (aC:val (xs.take n)=val xs) (aJ:n=0∨(n≤xs.length∧xs.getD (n - 1) 0≠0)):xs.take n=ao (val xs):=by
 rw[←aC]
 refine(Pa (h.take n) fun x aj=> ?_).symm
 rcases aJ with rfl|⟨aQ,eZ⟩
 ·simp at aj
 ·by_cases h0:n=0
  ·subst h0;simp at aj
  ·rw[List.getLast?_take,if_neg h0]at aj
   have bw:n - 1<xs.length:=by omega
   rw[List.getD_eq_getElem?_getD,List.getElem?_eq_getElem bw]at eZ
   rw[List.getElem?_eq_getElem bw]at aj
   simp only[Option.some_or,Option.some.injEq,Option.getD_some]at aj eZ
   subst aj
   simpa using eZ
theorem W7 {xs:List Int} {n:Nat} (aQ:n<xs.length) (h0:xs.getD n 0=0):val (xs.take (n+1))=val (xs.take n):=by
 rw[List.take_add_one,List.getElem?_eq_getElem aQ]
 rw[List.getD_eq_getElem?_getD,List.getElem?_eq_getElem aQ]at h0
 simp only[Option.getD_some]at h0
 rw[h0]
 exact ahQ _
theorem yW (xs:List Int) (x:Int):val (xs++[x])=val xs+16777216^xs.length*x.toNat:=by
 rw[Kp];simp[val]
theorem r5 (xs:List Int) (k:Nat):val (xs.drop k)=(xs.getD k 0).toNat+16777216*val (xs.drop (k+1)):=by
 rcases Nat.lt_or_ge k xs.length with h|h
 ·rw[List.drop_eq_getElem_cons h,val,List.getD_eq_getElem?_getD,List.getElem?_eq_getElem h];rfl
 ·rw[List.drop_of_length_le h,List.drop_of_length_le (by omega),List.getD_eq_getElem?_getD,List.getElem?_eq_none h];rfl
theorem ca.getD {xs:List Int} (h:ca xs) (i:Nat):0≤xs.getD i 0∧xs.getD i 0<16777216:=by
 rcases Nat.lt_or_ge i xs.length with hi|hi
 ·exact h.get hi
 ·rw[List.getD_eq_getElem?_getD,List.getElem?_eq_none hi];simp
theorem ca.snoc {xs:List Int} {x:Int} (h:ca xs) (h0:0≤x) (h1:x<16777216):ca (xs++[x]):=h.append fun y hy=>by
 rcases List.mem_singleton.1 hy with rfl;exact⟨h0,h1⟩
theorem XU {out:List Int} {T r r':Nat} {s:Int} (h0:0≤s) (aC:val out+16777216^out.length*r=T) (ar:r=s.toNat+16777216*r'):
 val (out++[s.tmod 16777216])+16777216^(out.length+1)*((s.tdiv 16777216).toNat+r')=T:=by
 rw[yW,Nat.pow_succ,←aC,ar,Nat.mul_assoc,Nat.add_assoc,←Nat.mul_add]
 congr 2
 rw[Int.tmod_eq_emod_of_nonneg h0,Int.tdiv_eq_ediv_of_nonneg h0]
 omega
theorem xG {n:Nat} (h:n≠0):0<(ao n).length:=by rw[xK h];simp
theorem Zw {n:Nat} (h:n≠0):16777216^((ao n).length - 1)≤n:=by
 induction n using Nat.strongRecOn with
 |_ n cM=>
  rw[xK h,List.length_cons,Nat.add_sub_cancel]
  by_cases h2:n / 16777216=0
  ·rw[h2,hk];simp;omega
  ·have:=cM (n / 16777216) (Nat.div_lt_self (Nat.pos_of_ne_zero h) (by decide)) h2
   have a1:=xG h2
   rw[show (ao (n / 16777216)).length=(ao (n / 16777216)).length - 1+1 by omega,Nat.pow_succ]
   omega
theorem Pw (n:Nat):n<16777216^(ao n).length:=by
 have:=kb (c5 n)
 rwa [b5]at this
theorem GD {a b:Nat} (h:(ao a).length<(ao b).length):a<b:=by
 have aw:b≠0:=fun e=>by subst e;rw[hk]at h;simp at h
 have h1:=Pw a
 have h2:=Zw aw
 have aq:16777216^(ao a).length≤16777216^((ao b).length - 1):=Nat.pow_le_pow_right (by decide) (by omega)
 omega
theorem GF (xs:List Int) (i:Nat) (hi:i≤xs.length):val xs=val (xs.take i)+16777216^i*val (xs.drop i):=by
 have:=Kp (xs.take i) (xs.drop i)
 rw[List.take_append_drop,List.length_take,Nat.min_eq_left hi]at this
 exact this
theorem KF {xs aB:List Int} (aj:ca xs) (hy:ca aB) {i:Nat} (h1:i<xs.length) (h2:i<aB.length) (aL:xs.drop (i+1)=aB.drop (i+1)) (bw:xs.getD i 0<aB.getD i 0):val xs<val aB:=by
 rw[GF xs i (by omega),GF aB i (by omega),r5 xs i,r5 aB i,aL]
 have a9:=kb (aj.take i)
 rw[List.length_take,Nat.min_eq_left (by omega)]at a9
 have eu:=aj.getD i
 have g0:=hy.getD i
 have hle:(xs.getD i 0).toNat+16777216*val (aB.drop (i+1))+1≤(aB.getD i 0).toNat+16777216*val (aB.drop (i+1)):=by omega
 have:=Nat.mul_le_mul_left (16777216^i) hle
 rw[Nat.mul_add,Nat.mul_one]at this
 omega
theorem yT {n k:Nat} (h:n<16777216^k):(ao n).length≤k:=by
 rcases Nat.lt_or_ge k (ao n).length with aJ|aJ
 ·exfalso
  have h0:n≠0:=fun e=>by subst e;rw[hk]at aJ;simp at aJ
  have h1:=Zw h0
  have h2:16777216^k≤16777216^((ao n).length - 1):=Nat.pow_le_pow_right (by decide) (by omega)
  omega
 ·exact aJ
theorem Xw {out xs aB:List Int} {T c c':Nat} {d:Int} (aj:ca xs) (hy:ca aB) (MH:0≤d) (aL:xs.getD out.length 0+16777216*(c':Int)=d+aB.getD out.length 0+c)
 (aC:val out+16777216^out.length*val (xs.drop out.length)=T+16777216^out.length*(c+val (aB.drop out.length))):
 val (out++[d])+16777216^(out.length+1)*val (xs.drop (out.length+1))=T+16777216^(out.length+1)*(c'+val (aB.drop (out.length+1))):=by
 have eu:=aj.getD out.length
 have g0:=hy.getD out.length
 rw[r5 xs,r5 aB]at aC
 rw[yW,Nat.pow_succ]
 generalize val (xs.drop (out.length+1))=X at*
 generalize val (aB.drop (out.length+1))=Y at*
 generalize 16777216^out.length=p at*
 generalize val out=o at*
 have aQ:(xs.getD out.length 0).toNat+16777216*c'=d.toNat+(aB.getD out.length 0).toNat+c:=by omega
 generalize (xs.getD out.length 0).toNat=x at*
 generalize (aB.getD out.length 0).toNat=y at*
 generalize d.toNat=e at*
 have h2:p*(x+16777216*c')=p*(e+y+c):=by rw[aQ]
 simp only[Nat.mul_add]at aC h2⊢
 rw[Nat.mul_assoc p,Nat.mul_assoc p,Nat.mul_assoc p]
 omega
theorem K5:∀{xs:List Int} {j:Nat},j<xs.length→∀x:Int,val (xs.set j x)+16777216^j*(xs.getD j 0).toNat=val xs+16777216^j*x.toNat
 |[],_,h,_=>by simp at h
 |y::aB,0,_,x=>by simp[val];omega
 |y::aB,j+1,h,x=>by
  have cM:=K5 (xs:=aB) (j:=j) (by simpa using h) x
  rw[List.set_cons_succ,val,val,List.getD_cons_succ,Nat.pow_succ]
  generalize val (aB.set j x)=A at*
  generalize val aB=C at*
  generalize 16777216^j=p at*
  rw[Nat.mul_right_comm p 16777216 (aB.getD j 0).toNat,Nat.mul_right_comm p 16777216 x.toNat]
  omega
theorem ca.set {xs:List Int} (h:ca xs) (j:Nat) {x:Int} (h0:0≤x) (h1:x<16777216):ca (xs.set j x):=fun y hy=>by
 rcases List.mem_or_eq_of_mem_set hy with hy|rfl
 ·exact h y hy
 ·exact⟨h0,h1⟩
theorem Zx {out:List Int} {j c x y:Nat} {s:Int} (aJ:ca out) (aH:j<out.length) (aG:s=out.getD j 0+(x*y:Nat)+c):
 val (out.set j (s.tmod 16777216))+16777216^(j+1)*(s.tdiv 16777216).toNat=val out+16777216^j*(c+x*y):=by
 have bu:=aJ.getD j
 have h0:0≤s:=by omega
 have aC:=K5 aH (s.tmod 16777216)
 have aoj:s.toNat=(out.getD j 0).toNat+x*y+c:=by omega
 have aok:(s.tmod 16777216).toNat+16777216*(s.tdiv 16777216).toNat=s.toNat:=by
  rw[Int.tmod_eq_emod_of_nonneg h0,Int.tdiv_eq_ediv_of_nonneg h0];omega
 rw[Nat.pow_succ]
 generalize val (out.set j (s.tmod 16777216))=A at*
 generalize (out.getD j 0).toNat=o at*
 generalize (s.tmod 16777216).toNat=m at*
 generalize (s.tdiv 16777216).toNat=d at*
 generalize x*y=z at*
 generalize val out=C at*
 generalize 16777216^j=p at*
 have h2:p*(m+16777216*d)=p*(o+z+c):=by rw[aok,aoj]
 simp only[Nat.mul_add]at h2⊢
 rw[Nat.mul_assoc]
 omega
theorem Yq {x y c o:Nat} (aj:x<16777216) (hy:y<16777216) (au:c<16777216) (bu:o<16777216):o+x*y+c<16777216*16777216:=by
 have:x*y≤16777215*16777215:=Nat.mul_le_mul (by omega) (by omega)
 omega
theorem CC {xs:List Int} {k:Nat} (h:k<xs.length):val (xs.take (k+1))=val (xs.take k)+16777216^k*(xs.getD k 0).toNat:=by
 rw[List.take_add_one,List.getElem?_eq_getElem h,List.getD_eq_getElem?_getD,List.getElem?_eq_getElem h]
 show val (xs.take k++[xs[k]])=_
 rw[yW,List.length_take,Nat.min_eq_left (Nat.le_of_lt h)]
 rfl
theorem wu {xs:List Int} {i j:Nat} (h:i≠j) (x:Int):(xs.set i x).getD j 0=xs.getD j 0:=by
 rw[List.getD_eq_getElem?_getD,List.getD_eq_getElem?_getD,List.getElem?_set_ne h]
end RV
namespace RV
open Go Go.RowKit
def hL (r:Option Nat):Fence:= { Fence.wide with round:=r }
def fP (a:Act) (ds:List Deferred):Act:= { a with defers:=a.defers++ds }
theorem xL (a:Act):fP a []=a:=by simp[fP]
theorem OS (a:Act) (ds:List Deferred):(fP a ds).eval=a.eval:=by funext x;cases x<;>rfl
theorem AK (a:Act) (ds:List Deferred) (d:Option Tmp) (v:Value):(fP a ds).put d v=fP (a.put d v) ds:=by cases d<;>rfl
def kx (T:Nat→Bool) (av:Nat→Value) (a:Act):Prop:=∀t,T t=true→a.tmps.getD t undef=av t
theorem kx.put {T:Nat→Bool} {av:Nat→Value} {a:Act} (h:kx T av a) {d:Option Nat} (aL:∀x,d=some x→T x=false) (v:Value):kx T av (a.put d v):=by
 cases d with
 |none=>exact h
 |some d=>
  intro t ah
  have eZ:d≠t:=fun e=>by subst e;rw[aL d rfl]at ah;cases ah
  have:=h t ah
  simp only[Act.put]
  rw[Array.getD_eq_getD_getElem?,Array.getElem?_setIfInBounds_ne eZ,←Array.getD_eq_getD_getElem?]
  exact this
theorem kx.congr {T:Nat→Bool} {av:Nat→Value} {a b:Act} (h:kx T av a) (e:b.tmps=a.tmps):kx T av b:=fun t ah=>by rw[e];exact h t ah
section
variable {r:Option Nat} {n:Nat} {P:Program} {ops:Array Oper} {Q Q':Exit→Act→World→Prop} {ds:List Deferred} {T:Nat→Bool} {av:Nat→Value}
theorem Zy {f:FuncId} {args:Array Value} {w:World} {R:Ending→World→Prop} (h:Calls P f args w R):CallsIn (hL r) n P f args w R:=
 (callsIn_wide (n:=n)).2 h
theorem akN {row:String} {args:Array Value} {w:World} {R:Value→World→Prop} (h:Rows P row args w R):RowsIn (hL r) n P row args w R:=fun c cs _=>
 let ⟨v,w',h1,h2⟩:=h c cs
 ⟨v,w',h1,stepsIn_wide.2 h2⟩
theorem K6 {o:Oper} (jl:∀c,o.op≠ .defer c) {a:Act} {w:World} {next next':Act→World→Prop} (g8:¬LetsOut Q) (h:o.wp P a w next Q)
 (aQ:∀ct w' v ms,ct= { a with defers:=ms }.put o.dst v→next ct w'→next' (fP ct ds) w') (a1:∀yC w',Q (.panic yC) a w'→Q' (.panic yC) (fP a ds) w'):
 o.wpIn (hL r) n P (fP a ds) w next' Q':=by
 refine⟨fun _ _=>trivial,?_⟩
 rw[Oper.semAt_eq _ _ _ jl,OS]
 unfold Oper.wp at h
 generalize (execOp a.eval o).run P w=res at h
 cases res with
 |ok x w'=>
  cases x<;>simp only[Oper.upon]at h<;>simp only[Oper.uponIn]
  case value v=>rw[AK];exact aQ _ _ v a.defers rfl h
  case skip=>rw[AK];exact aQ _ _ undef a.defers rfl h
  case defer d=>
   have:=aQ _ _ undef (d::a.defers) rfl h
   rw[←AK]at this
   exact this
  case enter f args=>
   refine⟨fun aL=>by simp[hL,Fence.wide]at aL,(Zy h).mono fun e aol he=> ?_⟩
   cases e with
   |returned v=>simp only at he⊢;rw[AK];exact aQ _ _ v a.defers rfl he
   |panicked yC=>exact a1 _ _ he
   |outgrown=>exact absurd he g8
  case row row args=>
   refine⟨fun aL=>by simp[hL,Fence.wide]at aL,(akN h).mono fun v aol he=> ?_⟩
   rw[AK];exact aQ _ _ v a.defers rfl he
 |halt x w'=>
  cases x<;>simp only[Oper.upon]at h<;>simp only[Oper.uponIn]
  case panic v=>exact a1 _ _ h
theorem KS (jl:∀(i:Nat) (o:Oper),ops[i]? =some o→∀c,o.op≠ .defer c) (cf:∀(i:Nat) (o:Oper) (d:Nat),ops[i]? =some o→o.dst=some d→T d=false) (g8:¬LetsOut Q)
 (cK:∀e ct w',kx T av ct→Q e ct w'→Q' e (fP ct ds) w'):∀(is:List Nat) (a:Act) (w:World),kx T av a→wpOps P ops Q is a w→wpOpsIn (hL r) n P ops Q' is (fP a ds) w
 |[],a,w,af,h=>cK _ _ _ af h
 |i::is,a,w,af,h=>by
  simp only[wpOps]at h
  simp only[wpOpsIn]
  cases bu:ops[i]? with
  |none=>rw[bu]at h;exact KS jl cf g8 cK is a w af h
  |some o=>
   rw[bu]at h
   simp only at h⊢
   have aL:∀x,o.dst=some x→T x=false:=fun x aj=>cf i o x bu aj
   by_cases hw:Region.wanted o (yielded ops a.tmps)=true
   ·rw[if_pos hw]at h
    rw[if_pos (show Region.wanted o (yielded ops (fP a ds).tmps)=true from hw)]
    rcases h with h|h
    ·refine K6 (jl i o bu) g8 h (fun ct w' v ms e eU=>KS jl cf g8 cK is ct w' ?_ eU) (fun yC w' eU=>cK _ _ _ af eU)
     subst e
     exact(af.congr (b:= { a with defers:=ms }) rfl).put aL v
    ·exact absurd h.2 g8
   ·rw[if_neg hw]at h
    rw[if_neg (show¬Region.wanted o (yielded ops (fP a ds).tmps)=true from hw)]
    refine⟨fun _ _=>trivial,?_⟩
    rw[AK]
    exact KS jl cf g8 cK is _ w (af.put aL undef) h
theorem KT {md:Region.Mode} (jl:∀(i:Nat) (o:Oper),ops[i]? =some o→∀c,o.op≠ .defer c) (cf:∀(i:Nat) (o:Oper) (d:Nat),ops[i]? =some o→o.dst=some d→T d=false) (g8:¬LetsOut Q)
 (cK:∀e ct w',kx T av ct→Q e ct w'→Q' e (fP ct ds) w'):∀(fuel:Nat) (listed:Array Bool) (a:Act) (w:World),kx T av a→wpAny P md ops Q fuel listed a w→wpAnyIn (hL r) n P md ops Q' fuel listed (fP a ds) w
 |0,listed,a,w,af,h=>⟨h.1,cK _ _ _ af h.2⟩
 |fuel+1,listed,a,w,af,h=>by
  simp only[wpAny]at h
  simp only[wpAnyIn]
  refine⟨fun e=>cK _ _ _ af (h.1 e),fun i hi=> ?_⟩
  have h:=h.2 i hi
  unfold wpOp at h
  unfold wpOpIn
  cases bu:ops[i]? with
  |none=>rw[bu]at h;exact KT jl cf g8 cK fuel _ a w af h
  |some o=>
   rw[bu]at h
   simp only at h⊢
   have aL:∀x,o.dst=some x→T x=false:=fun x aj=>cf i o x bu aj
   by_cases hw:Region.wanted o (yielded ops a.tmps)=true
   ·rw[if_pos hw]at h
    rw[if_pos (show Region.wanted o (yielded ops (fP a ds).tmps)=true from hw)]
    rcases h with h|h
    ·refine K6 (jl i o bu) g8 h (fun ct w' v ms e eU=>KT jl cf g8 cK fuel _ ct w' ?_ eU) (fun yC w' eU=>cK _ _ _ af eU)
     subst e
     exact(af.congr (b:= { a with defers:=ms }) rfl).put aL v
    ·exact absurd h.2 g8
   ·rw[if_neg hw]at h
    rw[if_neg (show¬Region.wanted o (yielded ops (fP a ds).tmps)=true from hw)]
    refine⟨fun _ _=>trivial,?_⟩
    rw[AK]
    exact KT jl cf g8 cK fuel _ _ w (af.put aL undef) h
end
section
variable {N:Nat} {aU:eW} {aP:Mem} {R:bU} {σ σ':St} {a:Act} {w w':World} {rd rd':Mem} {β β':bU} {P:Program} {Γ:Env} {ops:Array Oper} {r:Option Nat} {n:Nat} {ds:List Deferred} {T:Nat→Bool} {av:Nat→Value}
theorem Zz {M:Nat} {l:List bW} (aJ:xP P M ops ops.toList=some l):∀(i:Nat) (o:Oper),ops[i]? =some o→∀c,o.op≠ .defer c:=by
 intro i o bu c e
 have gY:=OC aJ
 have key:∀{os:List Oper} {ru:List bW},kC (fun o lo=>sf P M ops o=some lo) os ru→∀o∈os,∃lo,sf P M ops o=some lo:=by
  intro os ru h
  induction h with
  |nil=>intro o h;cases h
  |cons h1 _ cM=>
   intro o h
   rcases List.mem_cons.1 h with rfl|h
   ·exact⟨_,h1⟩
   ·exact cM o h
 obtain⟨lo,ln⟩:=key gY o (by
  rw[←Array.getElem?_toList]at bu
  exact List.mem_of_getElem? bu)
 obtain⟨xn,_,h1,_⟩:=Gs ln
 rw[e]at h1
 cases h1
def Qm (ops:Array Oper):List Nat:=ops.toList.filterMap (·.dst)
def p3:Code→List Nat
 | .region _ ops _=>Qm ops
 | .seq a b=>p3 a++p3 b
 | .cond _ a b=>p3 a++p3 b
 | .block _ a=>p3 a
 | .loop a=>p3 a
 |_=>[]
theorem ai2 {i:Nat} {o:Oper} {d:Nat} (bu:ops[i]? =some o) (aL:o.dst=some d):d∈Qm ops:=by
 rw[←Array.getElem?_toList]at bu
 exact List.mem_filterMap.2 ⟨o,List.mem_of_getElem? bu,aL⟩
theorem ZA {Q:e6→St→Prop} :¬LetsOut (Dx N aU aP R Q):=by rintro⟨a,w,h⟩;exact h
def HK (N:Nat) (aU:eW) (aP:Mem) (R:bU) (ds:List Deferred) (T:Nat→Bool) (av:Nat→Value) (Q:e6→St→Prop) (e:Exit) (ct:Act) (w':World):Prop:=
 ∃dj,ct=fP dj ds∧kx T av dj∧Dx N aU aP R Q e dj w'
theorem Yr (hm:P.follows .mixedOrders=true) (c0:ae P aP Γ) {M:Nat} (cb:M≤N) {id:Nat} {drawn:Bool} {lc:ay} (ah:ed P M (.region id ops drawn)=some lc) {Q:e6→St→Prop}
 (cf:∀d∈Qm ops,T d=false) (af:kx T av a) (h:bl N aU aP R σ a w rd β) (a7:cp Γ lc Q σ):(Code.region id ops drawn).wpIn (hL r) n P (HK N aU aP R ds T av Q) (fP a ds) w:=by
 have cK:∀e ct w',kx T av ct→Dx N aU aP R Q e ct w'→HK N aU aP R ds T av Q e (fP ct ds) w':=fun e ct w' h1 h2=>⟨ct,rfl,h1,h2⟩
 obtain⟨l,aJ,aom⟩:=OQ ah
 have jl:=Zz aJ
 have afJ:∀(i:Nat) (o:Oper) (d:Nat),ops[i]? =some o→o.dst=some d→T d=false:=fun i o d bu aL=>cf d (ai2 bu aL)
 rcases aom with ⟨rfl,rfl⟩|⟨rfl,rv,cA,rfl⟩
 ·simp only[cp]at a7
  exact wpIn_region (KS jl afJ ZA cK _ _ _ af (Kn c0 cb (fun _ _ h=>h) _ _ (Gn aJ) h a7))
 ·simp only[cp]at a7
  refine wpIn_region_any hm (KT jl afJ ZA cK _ _ _ _ af ?_)
  have gY:=Gn aJ
  have hlen:l.length=ops.size:=by rw[←gY.length,List.length_range]
  obtain⟨β',aL⟩:=bl.k8 (C4 (Region.before ops) (l.take (ops.size - jC (Region.before ops) ops.size))) h
  have MP:(l.take (ops.size - jC (Region.before ops) ops.size)).length=ops.size - jC (Region.before ops) ops.size:=by rw[List.length_take];omega
  have fQ:∀i,(Array.replicate ops.size false).getD i false=false:=fun i=>by
   rw[Array.getD_eq_getD_getElem?,Array.getElem?_replicate]
   split<;>rfl
  refine YS c0 cb gY cA (Nat.sub_le _ _) (fun j h1 h2=>OD h1 h2) rv (fun _ _ h=>h) ops.size (rem:=(l.take (ops.size - jC (Region.before ops) ops.size)).zipIdx) (List.Sublist.refl _) ?_ (by simp)
   (fun k o bu cn=>by rw[fQ]at cn;cases cn) (fun i o Tb=> ?_) (fun i _ _=>fQ i) aL.drew (by
    have:C4 (Region.before ops) (l.take (ops.size - jC (Region.before ops) ops.size))=(l.take (ops.size - jC (Region.before ops) ops.size)).zipIdx.map (tag (Region.before ops) (l.take (ops.size - jC (Region.before ops) ops.size))):=rfl
    rw[←this];exact a7)
  ·rw[List.length_zipIdx,MP];omega
  ·rw[List.mem_zipIdx_iff_getElem?]
   simp only[fQ,iff_true]
   exact Tb
theorem Xj {F:Fence} {c:Code} {Q:Exit→Act→World→Prop} (J:Nat→Act→World→Prop) (m:Nat) (h₀:J m a w)
 (round:∀m a w,J m a w→c.wpIn F n P (Exit.then (fun ct w'=>∃ft,ft<m∧J ft ct w') Q) a w):(Code.loop c).wpIn F n P Q a w:=by
 intro b k cs aon aw ar
 have key:∀m a w,J m a w→
  ∃e ct w',Q e ct w'∧ArrivesIn (Machine.fenced P F) P (lone (b.atR a (.code c:: .inLoop c::k)) cs w) b k cs e ct w':=by
  intro m
  induction m using Nat.strongRecOn with
  |_ m cM=>
   intro a w hJ
   obtain⟨e,hz,hB,a7,fV⟩:=round m a w hJ b (.inLoop c::k) cs aon aw ar
   cases e with
   |normal=>
    obtain⟨ft,bw,QG⟩:=a7
    obtain⟨Bt,Bu,Bv,Bd,A1⟩:=cM ft bw hz hB QG
    exact⟨Bt,Bu,Bv,Bd,.of_steps (StepsIn.trans fV (.one (fenced_calm aw ar rfl) stepR_inLoop)) A1⟩
   |exit id=>exact⟨_,hz,hB,a7,.pass (x:= .inLoop c) rfl (fun _ _=> .inl (by simp)) fV⟩
   |goto l=>exact⟨_,hz,hB,a7,.pass (x:= .inLoop c) rfl (fun _ _=> .inl (by simp)) fV⟩
   |ret=>exact⟨_,hz,hB,a7,.pass (x:= .inLoop c) rfl (fun _ _=> .inl (by simp)) fV⟩
   |panic yC=>exact⟨_,hz,hB,a7,.pass (x:= .inLoop c) rfl (fun _ _=> .inl (by simp)) fV⟩
   |outgrown=>exact⟨_,hz,hB,a7,.pass (x:= .inLoop c) rfl (fun _ _=> .inl (by simp)) fV⟩
 obtain⟨e,ct,w',a7,fV⟩:=key _ a w h₀
 exact⟨e,ct,w',a7,.of_steps (.one (fenced_calm aw ar rfl) stepR_loop) fV⟩
theorem PS (hm:P.follows .mixedOrders=true) (c0:ae P aP Γ) {M:Nat} (cb:M≤N):∀(c:Code) {lc:ay} {Q:e6→St→Prop} {σ:St} {a:Act} {w:World} {rd:Mem} {β:bU},ed P M c=some lc→(∀d∈p3 c,T d=false)→kx T av a→
 bl N aU aP R σ a w rd β→cp Γ lc Q σ→c.wpIn (hL r) n P (HK N aU aP R ds T av Q) (fP a ds) w:=by
 intro c
 induction c with
 |skip=>
  intro lc Q σ a w rd β ah cf hX h af
  simp only[ed,Option.some.injEq]at ah;subst ah
  exact wpIn_skip ⟨a,rfl,hX,σ,rd,β,af,h⟩
 |region id ops drawn=>
  intro lc Q σ a w rd β ah cf hX h af
  exact Yr hm c0 cb ah cf hX h af
 |seq x y lq sT=>
  intro lc Q σ a w rd β ah cf hX h af
  simp only[ed]at ah
  simp only[p3,List.mem_append]at cf
  split at ah
  ·rename_i da hK aj hy
   simp only[Option.some.injEq]at ah;subst ah
   simp only[cp]at af
   refine wpIn_seq (wpIn_mono (lq aj (fun d aL=>cf d (.inl aL)) hX h af) fun e ct w' he=> ?_)
   obtain⟨dj,rfl,tH,he⟩:=he
   cases e with
   |normal=>obtain⟨σ',rd',β',h1,h2⟩:=he;exact sT hy (fun d aL=>cf d (.inr aL)) tH h2 h1
   |exit id=>exact⟨dj,rfl,tH,he⟩
   |ret=>exact⟨dj,rfl,tH,he⟩
   |_=>exact he.elim
  ·cases ah
 |cond MQ x y lq sT=>
  intro lc Q σ a w rd β ah cf hX h af
  simp only[ed]at ah
  simp only[p3,List.mem_append]at cf
  split at ah
  ·rename_i a3 da hK au aj hy
   simp only[Option.some.injEq]at ah;subst ah
   simp only[cp]at af
   have ar:=e4 h au
   split at af
   ·rename_i t B4
    rw[B4]at ar
    simp only[aX,bA]at ar
    rw[←OS a ds]at ar
    cases t with
    |true=>exact wpIn_cond_true ar (lq aj (fun d aL=>cf d (.inl aL)) hX h (af.1 rfl))
    |false=>exact wpIn_cond_false ar (sT hy (fun d aL=>cf d (.inr aL)) hX h (af.2 rfl))
   ·exact af.elim
  ·cases ah
 |block id x cM=>
  intro lc Q σ a w rd β ah cf hX h af
  simp only[ed]at ah
  obtain⟨da,aj,rfl⟩:=map_some ah
  simp only[cp]at af
  refine wpIn_block (wpIn_mono (cM aj cf hX h af) fun e ct w' he=> ?_)
  obtain⟨dj,rfl,tH,he⟩:=he
  cases e with
  |normal=>exact⟨dj,rfl,tH,he⟩
  |exit j=>
   obtain⟨σ',rd',β',h1,h2⟩:=he
   simp only at h1
   unfold Exit.inBlock
   simp only
   split at h1
   ·rename_i aH;rw[if_pos aH];exact⟨dj,rfl,tH,σ',rd',β',h1,h2⟩
   ·rename_i aH;rw[if_neg aH];exact⟨dj,rfl,tH,σ',rd',β',h1,h2⟩
  |ret=>exact⟨dj,rfl,tH,he⟩
  |_=>exact he.elim
 |loop x cM=>
  intro lc Q σ a w rd β ah cf hX h af
  simp only[ed]at ah
  obtain⟨da,aj,rfl⟩:=map_some ah
  simp only[cp,A5]at af
  obtain⟨I,eI,h0,hJ⟩:=af
  refine Xj (fun m ct w=>∃dj,ct=fP dj ds∧kx T av dj∧iS N aU aP R (fun s=>I s∧eI s=m) dj w) (eI σ) ⟨a,rfl,hX,σ,rd,β,⟨h0,rfl⟩,h⟩ ?_
  rintro m ct w ⟨dj,rfl,hX,s,rd',β',⟨h1,rfl⟩,h2⟩
  refine wpIn_mono (cM aj cf hX h2 (hJ s h1)) fun e ct w' he=> ?_
  obtain⟨b1,rfl,tH,he⟩:=he
  cases e with
  |normal=>
   obtain⟨dM,gb,kk,⟨bE,bM⟩,bn⟩:=he
   exact⟨eI dM,bM,b1,rfl,tH,dM,gb,kk,⟨bE,rfl⟩,bn⟩
  |exit j=>exact⟨b1,rfl,tH,he⟩
  |ret=>exact⟨b1,rfl,tH,he⟩
  |_=>exact he.elim
 |exit id=>
  intro lc Q σ a w rd β ah cf hX h af
  simp only[ed,Option.some.injEq]at ah;subst ah
  exact wpIn_exit ⟨a,rfl,hX,σ,rd,β,af,h⟩
 |ret=>
  intro lc Q σ a w rd β ah cf hX h af
  simp only[ed,Option.some.injEq]at ah;subst ah
  exact wpIn_ret ⟨a,rfl,hX,σ,rd,β,af,h⟩
 |_=>intro lc Q σ a w rd β ah cf hX h af;cases ah
end
end RV
namespace RV
open Go Go.RowKit
structure qG where
 pre:List D→Prop
 seq:List D→Nat→Option (List D)
structure Bw (p:Nat→Option Obj) (w:World) (dH:Nat→Option Obj) (w':World):Prop where
 os:w'.os=w.os
 tape:w'.tape=w.tape
 output:w'.output=w.output
 size:w.heap.size≤w'.heap.size
 block:∀k,k<w.heap.size→p k=none→w'.heap[k]? =w.heap[k]?
 afK:∀k o,dH k=some o→w'.heap[k]? =some o∧(∃c t cE,o= .cells c t cE)∧(p k=none→w.heap.size≤k)
def Td:Nat→Option Obj:=fun _=>none
def afL (P:Program) (B:Mem) (f:Nat) (C:qG):Prop:=
 A8 P f∧∀ds,C.pre ds→∀(w:World) (rd:Mem) (dC:Array Value) (l M:Nat) (J:Nat→(Nat→Option Obj)→Mem→World→Prop) (Jx:(Nat→Option Obj)→World→Prop),
  b7 B rd→b7 rd w.cell?→bV rd ds dC.toList→0<M→J 0 Td rd w→
  (∀k p m b8 dH ft cL,J k p m b8→Bw p b8 dH cL→b7 m ft→b7 ft cL.cell?→(∀aV v,ft aV=some v→aV.block<b8.heap.size→m aV=some v)→(∀aV v,ft aV=some v→dH aV.block=none)→J k dH ft cL)→
  (∀p b8 dH cL,Jx p b8→Bw p b8 dH cL→Jx dH cL)→
  (∀k p m b8 x (vs:Array Value),k<M→C.seq ds k=some x→J k p m b8→bV m x vs.toList→∀n,YieldAt (hL none) n P l vs b8 fun e cL=>
   b7 m cL.cell?∧(∀b o,p b=some o→cL.heap[b]? =some o)∧((e= .returned (.bool true)∧J (k+1) p m cL∧k+1<M)∨(e= .returned (.bool false)∧Jx p cL)))→
  Calls P f (#[.func (.yield l) #[] #[]]++dC) w fun e w'=>∃v,e= .returned v∧((∃k p m,C.seq ds k=none∧J k p m w')∨∃p,Jx p w')
def ai.iu (σ:St) (i:Nat):ai→ai
 | .own j lo n=>if j=i then (match toD σ (.own j lo n)with|some x=>dn x|none=> .any)else .own j lo n
 | .box j o=>if j=i then (match toD σ (.box j o)with|some x=>dn x|none=> .any)else .box j o
 |v=>if v.has i=true then .any else v
def St.iu (σ:St) (i:Nat):St:=⟨fun t=>(σ.ag t).iu σ i,fun j=>if j=i then none else (σ.az j).map (cr.gJ (ai.iu σ i))⟩
def al4 (σ:St) (K:St→Prop):Option Nat→Prop
 |none=>K σ
 |some i=>(∃b,σ.az i=some b∧b.ext=false)∧K (σ.iu i)
section
variable {N:Nat} {aU:eW} {aP:Mem} {R:bU} {σ:St} {a:Act} {w:World} {rd:Mem} {β:bU}
theorem bl.iu (h:bl N aU aP R σ a w rd β) {i:Nat} {b:cr} (aw:σ.az i=some b) (he:b.ext=false):
 bl N aU aP R (σ.iu i) a w (plus w (fun aV=>∃r,β i=some r∧r.has aV) rd) (fC β i none):=by
 have hle:=pg w (fun aV=>∃r,β i=some r∧r.has aV) rd
 have Qn:∀v u,v.has i=false→aX rd β v u→aX (plus w (fun aV=>∃r,β i=some r∧r.has aV) rd) (fC β i none) v u:=fun v u aC H=>
  aX.congr v u (fun j aH=>by
   have:j≠i:=fun e=>by subst e;rw[aC]at aH;cases aH
   simp[fC,this]) (aX.mono hle v u H)
 have Bb:∀v u d,(∀j,v.has j=true→j=i)→toD σ v=some d→aX rd β v u→aX (plus w (fun aV=>∃r,β i=some r∧r.has aV) rd) (fC β i none) (dn d) u:=fun v u d aC aL H=>
  tq (toD_rep h v u d aL H fun j r aV aH ar a9=>by
   have:=aC j aH;subst this
   exact⟨r,ar,a9⟩)
 have Rf:∀u,aX (plus w (fun aV=>∃r,β i=some r∧r.has aV) rd) (fC β i none) .any u:=fun u=>by simp only[aX]
 have hf:∀x v,aX rd β x v→aX (plus w (fun aV=>∃r,β i=some r∧r.has aV) rd) (fC β i none) (x.iu σ i) v:=fun x v H=>by
  cases x with
  |own j lo n=>
   simp only[ai.iu]
   split
   ·rename_i e
    subst e
    split
    ·rename_i d aL
     exact Bb _ _ _ (fun k af=>by simp only[ai.has,beq_iff_eq]at af;exact af.symm) aL H
    ·exact Rf v
   ·rename_i e
    exact Qn _ _ (by simpa [ai.has]using e) H
  |box j o=>
   simp only[ai.iu]
   split
   ·rename_i e
    subst e
    split
    ·rename_i d aL
     exact Bb _ _ _ (fun k af=>by simp only[ai.has,beq_iff_eq]at af;exact af.symm) aL H
    ·exact Rf v
   ·rename_i e
    exact Qn _ _ (by simpa [ai.has]using e) H
  |_=>
   simp only[ai.iu]
   split
   ·exact Rf v
   ·rename_i e
    exact Qn _ _ (by simpa using e) H
 have Dy:∀{k:Nat} {r:dp},k≠i→β k=some r→∀aV,r.has aV→plus w (fun aV=>∃r,β i=some r∧r.has aV) rd aV=rd aV:=fun {k r} af ar aV a9=>wy (by
  rintro⟨r',eC,tY⟩
  exact h.eR k i r r' af ar eC aV a9 tY)
 have HL:∀{k:Nat} {r:dp},k≠i→fC β i none k=some r→β k=some r:=fun {k r} af ar=>by simpa [fC,af]using ar
 have sN:∀{k:Nat} {r:dp},fC β i none k=some r→k≠i:=fun {k r} ar e=>by subst e;rw[uK]at ar;cases ar
 exact {
  size:=h.size
  defers:=h.defers
  cV:=h.cV
  dy:=fun k o af=>⟨(h.dy k o af).1.to (fun aV v e aw=>by
   by_cases aG:∃r,β i=some r∧r.has aV
   ·obtain⟨r,ar,a9⟩:=aG
    exact .inr ⟨i,r,ar,by rw[←aw];exact a9.1.symm⟩
   ·rw[wy aG]at e;exact .inl e) (fun j r' aH e=>⟨j,r',HL (sN aH) aH,e⟩),(h.dy k o af).2⟩
  c3:=wC h.c3
  dK:=h.dK.trans hle
  aP:=fun aV v e aJ=>by
   by_cases aG:∃r,β i=some r∧r.has aV
   ·obtain⟨r,ar,a9⟩:=aG
    obtain⟨g2,aj,_,_,h1,_⟩:=h.box i r ar
    rw[aw]at aj;simp only[Option.some.injEq]at aj;subst aj
    have:=(h1 he).1
    have:=a9.1
    omega
   ·rw[wy aG]at e;exact h.aP aV v e aJ
  eX:=fun k r g2 af aj br aV a9=>by
   have qp:=sN af
   have ub:=HL qp af
   rw[Dy qp ub aV a9]
   simp only[St.iu,if_neg qp]at aj
   obtain⟨dc,h0,_⟩:=h.box k r ub
   rw[h0]at aj
   simp only[Option.map_some,Option.some.injEq]at aj
   subst aj
   exact h.eX k r dc ub h0 br aV a9
  eY:=fun t=>hf _ _ (h.eY t)
  box:=fun k r af=>by
   have qp:=sN af
   have ub:=HL qp af
   obtain⟨dc,h0,dL,fF,h1,h2⟩:=h.box k r ub
   refine⟨dc.gJ (ai.iu σ i),by simp only[St.iu,if_neg qp,h0];rfl,?_,fF,h1,h2⟩
   have hm:fq w (plus w (fun aV=>∃r,β i=some r∧r.has aV) rd) (fC β i none) r (dc.c.gJ (ai.iu σ i)):=by
    cases ho:dc.c with
    |cells cs=>
     rw[ho]at dL
     refine⟨by simpa [BC.gJ]using dL.1,?_⟩
     have key:∀{cs:List ai} {o:Nat},cX w rd β r.cc o cs→cX w (plus w (fun aV=>∃r,β i=some r∧r.has aV) rd) (fC β i none) r.cc o (cs.map (ai.iu σ i)):=by
      intro cs
      induction cs with
      |nil=>intro o _;trivial
      |cons v vs cM=>rintro o ⟨⟨u,a4,bc⟩,c8⟩;exact⟨⟨u,a4,hf v u bc⟩,cM c8⟩
     exact key dL.2
    |ints k xs=>rw[ho]at dL;exact dL.mono hle (fun _ _ _=>rfl) (fun cs e=>by cases e)
    |flts xs=>rw[ho]at dL;exact dL.mono hle (fun _ _ _=>rfl) (fun cs e=>by cases e)
    |recs sz xs=>rw[ho]at dL;exact dL.mono hle (fun _ _ _=>rfl) (fun cs e=>by cases e)
   exact hm
  eL:=fun k g2 aj af=>by
   simp only[St.iu]at aj
   split at aj
   ·cases aj
   ·rename_i qp
    have cn:β k=none:=by simpa [fC,qp]using af
    cases h0:σ.az k with
    |none=>rw[h0]at aj;cases aj
    |some dc=>
     rw[h0]at aj
     simp only[Option.map_some,Option.some.injEq]at aj
     subst aj
     obtain⟨bE,bM⟩:=h.eL k dc h0 cn
     exact⟨bE,by rw[←bM];exact CJ _ dc.c⟩
  eR:=fun j k iQ qE sM aH af=>h.eR j k iQ qE sM (HL (sN aH) aH) (HL (sN af) af) }
end
inductive oO where
 |c (a:ay)
 |seq (a b:oO)
 |block (id:Nat) (a:oO)
 |EU (g:bB) (ps ws:List Nat) (pH body:ay)
 |LP (i j:Nat) (ek:eG)
def LB (P:Program) (N:Nat) (ops:Array Oper):Option (Nat×eG):=
 match ops.toList with
 |[o]=>match o.op,o.dst,o.guard with
  | .alloc e,some i,none=>match P.underlying e,(P.info? e).bind (·.zero)with
    |some (.slice t),some (.slice none 0 0)=>if i<N then (ts P t).map (fun ek=>(i,ek))else none
    |_,_=>none
  |_,_,_=>none
 |_=>none
def wI (P:Program) (N:Nat):Code→Option oO
 | .seq a b=>match ed P N (.seq a b)with
   |some l=>some (.c l)
   |none=>match wI P N a,wI P N b with
    |some x,some y=>some (.seq x y)
    |_,_=>none
 | .block id a=>match ed P N (.block id a)with
   |some l=>some (.c l)
   |none=>(wI P N a).map (.block id)
 | .rangeFunc g ps pH body=>match eh P g,ed P N pH,ed P N body with
   |some g,some a,some b=>if ps.toList.all (fun p=>decide (p<N))then some (.EU g ps.toList (ps.toList++p3 pH++p3 body) a b)else none
   |_,_,_=>none
 | .region id ops d=>match (if d=true then none else LB P N ops)with
   |some (i,ek)=>some (.LP i (i+500000) ek)
   |none=>(ed P N (.region id ops d)).map .c
 |c=>(ed P N c).map .c
def CY (P:Program) (f:Nat):Option (oO×List bx):=
 match P.funcs[f]? with
 |some fn=>match fn.body with
  |some c=>match wI P fn.ntmps c,yY P fn.results.toList with
   |some l,some r=>some (l,r)
   |_,_=>none
  |none=>none
 |none=>none
def St.only (σ:St) (ws:List Nat):St:=⟨fun t=>if ws.contains t=true then .any else σ.ag t,σ.az⟩
def HM (σ:St):List Nat→List D→St
 |p::ps,d::ds=>HM (σ.put (some p) (dn d)) ps ds
 |_,_=>σ
def iM (Γ:Env) (S:Nat→Option qG):oO→(e6→St→Prop)→St→Prop
 | .c l,Q,σ=>cp Γ l Q σ
 | .seq a b,Q,σ=>iM Γ S a (fun e s=>match e with| .normal=>iM Γ S b Q s|e=>Q e s) σ
 | .block id a,Q,σ=>iM Γ S a (fun e s=>match e with| .exit j=>if j=id then Q .normal s else Q (.exit j) s|e=>Q e s) σ
 | .LP i j ek,Q,σ=>Q .normal (((σ.fresh j ⟨false,false,r4 ek⟩).fresh i ⟨false,false,.cells [.own j 0 0]⟩).put (some i) (.box i 0))
 | .EU g ps ws pH body,Q,σ=>match σ.a3 g with
   | .d (.fn f [] cap)=>match S f with
     |some C=>C.pre cap∧∃(I:Nat→St→Prop) (M:Nat),0<M∧I 0 (σ.only ws)∧
      (∀k x s,k<M→C.seq cap k=some x→I k s→x.length=ps.length∧
       cp Γ pH (fun e s1=>match e with
        | .normal=>cp Γ body (fun e s2=>match e with
          | .normal=>I (k+1) (s2.only ws)∧k+1<M
          |e=>Q e (s2.only ws)) s1
        |_=>False) (HM s ps x))∧
      (∀k s,C.seq cap k=none→I k s→∃m,al4 s (Q .normal) m)
     |none=>False
   |_=>False
theorem KU {Γ:Env} {S:Nat→Option qG} :∀(l:oO) {Q Q':e6→St→Prop} {σ:St},(∀e s,Q e s→Q' e s)→iM Γ S l Q σ→iM Γ S l Q' σ
 | .c l,_,_,_,h,k=>j7 l h k
 | .seq a b,_,_,_,h,k=>KU a (fun e s af=>by cases e<;>first|exact KU b h af|exact h _ _ af) k
 | .block id a,_,_,_,h,k=>KU a (fun e s af=>by
  cases e with
  |exit j=>simp only at af⊢;split at af<;>rename_i aH<;>simp only[aH,if_true,if_false]<;>exact h _ _ af
  |normal=>exact h _ _ af
  |ret=>exact h _ _ af) k
 | .LP i j ek,_,_,_,h,k=>h _ _ k
 | .EU g ps ws pH body,Q,Q',σ,h,k=>by
   simp only[iM]at k⊢
   split at k
   ·split at k
    ·rename_i f cap C g4
     obtain⟨a1,I,M,h0,hJ,ar,aL⟩:=k
     refine⟨a1,I,M,h0,hJ,fun k x s af aj aG=> ?_,fun k s aQ aG=>by
      obtain⟨m,hm⟩:=aL k s aQ aG
      refine⟨m,?_⟩
      cases m with
      |none=>exact h _ _ hm
      |some i=>exact⟨hm.1,h _ _ hm.2⟩⟩
     obtain⟨h1,h2⟩:=ar k x s af aj aG
     refine⟨h1,j7 pH (fun e s1 he=> ?_) h2⟩
     cases e with
     |normal=>
      refine j7 body (fun e s2 he=> ?_) he
      cases e with
      |normal=>exact he
      |exit j=>exact h _ _ he
      |ret=>exact h _ _ he
     |exit j=>exact he
     |ret=>exact he
    ·exact k.elim
   ·exact k.elim
theorem xQ {Γ:Env} {S:Nat→Option qG} {a b:oO} {Q:e6→St→Prop} {σ:St} (K:St→Prop) (a9:iM Γ S a (fun e s=>match e with| .normal=>K s|e=>Q e s) σ) (aw:∀s,K s→iM Γ S b Q s):iM Γ S (.seq a b) Q σ:=by
 simp only[iM]
 refine KU a (fun e s h=> ?_) a9
 cases e with
 |normal=>exact aw s h
 |exit j=>exact h
 |ret=>exact h
def Dz (Γ:Env) (S:Nat→Option qG) (l:oO) (rs:List bx) (args:List D) (K:D→Prop):Prop:=
 iM Γ S l (fun e σ=>match e with| .exit _=>False|_=>kA rs σ K) (tV args)
section
variable {N:Nat} {aU:eW} {aP:Mem} {R:bU} {σ σ':St} {a:Act} {w w':World} {rd rd':Mem} {β β':bU} {P:Program} {Γ:Env} {n:Nat}
theorem bl.only (h:bl N aU aP R σ a w rd β) (ws:List Nat):bl N aU aP R (σ.only ws) a w rd β:=
 have ah:∀t,aX rd β ((σ.only ws).ag t) (a.tmps.getD t undef):=fun t=>by
  simp only[St.only]
  split
  ·simp only[aX]
  ·exact h.eY t
 { size:=h.size,defers:=h.defers,cV:=h.cV,dy:=h.dy,c3:=h.c3,dK:=h.dK,aP:=h.aP,eX:=h.eX,eY:=ah,box:=h.box,eL:=h.eL,eR:=h.eR }
theorem bl.back {ep:Act} (h:bl N aU aP R σ ep w rd β) {ws:List Nat} (aG:a.tmps.size=N) (aL:a.defers=[]) (af:kx (fun t=> !ws.contains t) (fun t=>a.tmps.getD t undef) ep):
 bl N aU aP R (σ.only ws) a w rd β:=
 have ah:∀t,aX rd β ((σ.only ws).ag t) (a.tmps.getD t undef):=fun t=>by
  simp only[St.only]
  by_cases ah:ws.contains t=true
  ·rw[if_pos ah];simp only[aX]
  ·rw[if_neg ah]
   have e:ep.tmps.getD t undef=a.tmps.getD t undef:=af t (by simpa using ah)
   rw[←e];exact h.eY t
 { size:=aG,defers:=aL,cV:=h.cV,dy:=h.dy,c3:=h.c3,dK:=h.dK,aP:=h.aP,eX:=h.eX,eY:=ah,box:=h.box,eL:=h.eL,eR:=h.eR }
theorem bl.als (h:bl N aU aP R σ a w rd β):bl N aU rd R σ a w rd β:=
 { h with dK:=b7.refl _,aP:=fun _ _ e _=>e }
theorem bl.alu {gb:Mem} (h:bl N aU gb R σ a w rd β) (hm:b7 aP gb) (h0:∀aV v,gb aV=some v→aV.block<aU.heap.size→aP aV=some v):bl N aU aP R σ a w rd β:=
 { h with dK:=hm.trans h.dK,aP:=fun aV v e aJ=>h0 aV v (h.aP aV v e aJ) aJ }
def lr (ot:Nat→Option Obj) (l:Nat) (o:Obj):Nat→Option Obj:=fun k=>if k=l then some o else ot k
theorem bl.HN {ot sV:Nat→Option Obj} {W:World} (h:bl N ⟨W,ot⟩ aP R σ a w rd β) (bu:∀k o,sV k=some o→Safe rd β k o∧w.heap[k]? =some o):bl N ⟨W,sV⟩ aP R σ a w rd β:=
 { size:=h.size,defers:=h.defers,cV:=h.cV,dy:=bu,c3:=h.c3,dK:=h.dK,aP:=h.aP,eX:=h.eX,eY:=h.eY,box:=h.box,eL:=h.eL,eR:=h.eR }
theorem ajy {l:Nat} {o:Obj} (bu:yZ o) (aJ:w.heap[l]? =some o) {aV:Addr} (aw:aV.block=l):w.cell? aV=none:=by
 unfold World.cell?
 rw[aw,aJ]
 cases o with
 |cells c t cE=>exact absurd rfl (bu c t cE)
 |_=>rfl
theorem bl.LQ {ot:Nat→Option Obj} {W:World} (h:bl N ⟨W,ot⟩ aP R σ a w rd β) {l:Nat} {o o':Obj} (aJ:w.heap[l]? =some o) (bu:yZ o) (ji:yZ o') (hW:W.heap.size≤l):bl N ⟨W,lr ot l o'⟩ aP R σ a (w.putObj l o') rd β:=by
 have bw:=(Array.getElem?_eq_some_iff.1 aJ).1
 have Dy:∀k,k≠l→(w.putObj l o').heap[k]? =w.heap[k]? :=fun k af=>World.putObj_heap_other af
 have fB:∀aV v,w.cell? aV=some v→(w.putObj l o').cell? aV=some v:=fun aV v aC=>by
  have eZ:aV.block≠l:=fun e=>by rw[ajy bu aJ e]at aC;cases aC
  rw[uH (Dy _ eZ)];exact aC
 have Dt:∀{r:dp},qY w r→r.cc≠l:=fun {r} a1 e=>by
  obtain⟨arr,t,cE,h1,_⟩:=a1
  rw[e,aJ]at h1
  exact bu _ _ _ (Option.some.inj h1)
 exact {
  size:=h.size
  defers:=h.defers
  cV:=⟨h.cV.os,h.cV.tape,h.cV.output,by rw[World.putObj_size];exact h.cV.size,fun k af=>by
   rw[Dy k (by have af:k<W.heap.size:=af;omega)];exact h.cV.block k af⟩
  dy:=fun k x af=>by
   simp only[lr]at af
   split at af
   ·rename_i e
    subst e
    simp only[Option.some.injEq]at af;subst af
    exact⟨.inl ji,World.putObj_heap_same bw⟩
   ·rename_i e
    obtain⟨h1,h2⟩:=h.dy k x af
    exact⟨h1,by rw[Dy k e];exact h2⟩
  c3:=fun aV v e=>fB aV v (h.c3 aV v e)
  dK:=h.dK
  aP:=h.aP
  eX:=h.eX
  eY:=h.eY
  box:=fun i r hi=>by
   obtain⟨b,aj,au,a1,h1,h2⟩:=h.box i r hi
   have aw:=Dy _ (Dt a1)
   exact⟨b,aj,au.mono (b7.refl _) (fun j _ _=>uH aw) (fun _ _ _ _ _ H=>H),a1.AO aw,h1,h2⟩
  eL:=h.eL
  eR:=h.eR }
def jS (ot p:Nat→Option Obj):Nat→Option Obj:=fun k=>match p k with
 |some o=>some o
 |none=>ot k
def xY (w w':World) (p:Nat→Option Obj) (rd:Mem):Mem:=fun aV=>if aV.block<w.heap.size then rd aV else if (p aV.block).isNone=true then w'.cell? aV else none
theorem G2 {ot p:Nat→Option Obj} {k:Nat} {o:Obj} (h:p k=some o):jS ot p k=some o:=by unfold jS;rw[h]
theorem K7 {ot p:Nat→Option Obj} {k:Nat} (h:p k=none):jS ot p k=ot k:=by unfold jS;rw[h]
theorem ake (ot:Nat→Option Obj):jS ot Td=ot:=rfl
theorem bl.grow {ot p dH:Nat→Option Obj} {W cL:World} (h:bl N ⟨W,jS ot p⟩ aP R σ a w rd β) (g:Bw p w dH cL) (a1:∀b o,p b=some o→W.heap.size≤b∧∃c t cE,o= .cells c t cE) (h1:∀k o,ot k=some o→p k=none∧dH k=none):
 bl N ⟨W,jS ot dH⟩ aP R σ a cL (xY w cL dH rd) β:=by
 have Qo:∀b o,p b=some o→(∀i r,β i=some r→r.cc≠b)∧∀aV:Addr,aV.block=b→rd aV=none:=fun b o aw=>by
  obtain⟨_,c,t,cE,rfl⟩:=a1 b o aw
  rcases (h.dy b _ (G2 aw)).1 with k|k
  ·exact absurd rfl (k _ _ _)
  ·exact k
 have v7:∀i r,β i=some r→p r.cc=none:=fun i r hi=>by
  cases e:p r.cc with
  |none=>rfl
  |some o=>exact absurd rfl ((Qo _ _ e).1 i r hi)
 have Te:∀i r,β i=some r→r.cc<w.heap.size:=fun i r hi=>by obtain⟨_,_,_,a1,_⟩:=h.box i r hi;exact a1.lt
 have same:∀aV:Addr,aV.block<w.heap.size→xY w cL dH rd aV=rd aV:=fun aV aJ=>by unfold xY;rw[if_pos aJ]
 have hle:b7 rd (xY w cL dH rd):=fun aV v e=>by rw[same aV (yQ (h.c3 aV v e))];exact e
 exact {
  size:=h.size
  defers:=h.defers
  cV:=⟨g.os.trans h.cV.os,g.tape.trans h.cV.tape,g.output.trans h.cV.output,Nat.le_trans h.cV.size g.size,fun k af=>by
   have cn:k<W.heap.size:=af
   have:p k=none:=by
    cases e:p k with
    |none=>rfl
    |some o=>have:=(a1 k o e).1;omega
   rw[g.block k (Nat.lt_of_lt_of_le cn h.cV.size) this]
   exact h.cV.block k af⟩
  dy:=fun k o af=>by
   have cn:jS ot dH k=some o:=af
   cases e:dH k with
   |some o'=>
    rw[G2 e]at cn
    simp only[Option.some.injEq]at cn;subst cn
    obtain⟨cC,c9,fM⟩:=g.afK k o' e
    refine⟨.inr ?_,cC⟩
    cases q:p k with
    |some df=>
     obtain⟨s1,s2⟩:=Qo k df q
     exact⟨s1,fun aV aw=>by
      unfold xY
      split
      ·exact s2 aV aw
      ·rw[aw,e];rfl⟩
    |none=>
     have:=fM q
     exact⟨fun i r hi=>by have:=Te i r hi;omega,fun aV aw=>by
      unfold xY
      rw[if_neg (by omega),aw,e];rfl⟩
   |none=>
    rw[K7 e]at cn
    obtain⟨q,_⟩:=h1 k o cn
    obtain⟨s1,s2⟩:=h.dy k o (by show jS ot p k=some o;rw[K7 q];exact cn)
    have bw:=(Array.getElem?_eq_some_iff.1 s2).1
    exact⟨s1.to (fun aV v e aw=> .inl (by rw[←same aV (by omega)];exact e)) (fun i r hi e=>⟨i,r,hi,e⟩),by rw[g.block k bw q];exact s2⟩
  c3:=fun aV v e=>by
   unfold xY at e
   split at e
   ·rename_i aJ
    have aQ:p aV.block=none:=by
     cases q:p aV.block with
     |none=>rfl
     |some o=>rw[(Qo _ _ q).2 aV rfl]at e;cases e
    rw[uH (g.block _ aJ aQ)]
    exact h.c3 aV v e
   ·split at e
    ·exact e
    ·cases e
  dK:=h.dK.trans hle
  aP:=fun aV v e aJ=>h.aP aV v (by rw[←same aV (Nat.lt_of_lt_of_le aJ h.cV.size)];exact e) aJ
  eX:=fun i r b hi aj br aV a9=>by rw[same aV (by rw[a9.1];exact Te i r hi)];exact h.eX i r b hi aj br aV a9
  eY:=fun t=>(h.eY t).mono hle
  box:=fun i r hi=>by
   obtain⟨b,aj,au,a1,bE,bM⟩:=h.box i r hi
   have aw:=g.block _ (Te i r hi) (v7 i r hi)
   exact⟨b,aj,au.mono hle (fun j _ _=>uH aw) (fun _ _ v _ u H=>aX.mono hle v u H),a1.AO aw,bE,bM⟩
  eL:=h.eL
  eR:=h.eR }
theorem Ys:∀{ps:List Nat} {x:List D} {vs:List Value} {σ:St} {a:Act},bl N aU aP R σ a w rd β→bV rd x vs→(∀p∈ps,p<N)→x.length=ps.length→
 bl N aU aP R (HM σ ps x) { tmps:=(ps.zip vs).foldl (fun t y=>t.setIfInBounds y.1 y.2) a.tmps,defers:=[] } w rd β∧
  ∀(T:Nat→Bool) (av:Nat→Value),(∀p∈ps,T p=false)→kx T av a→kx T av { tmps:=(ps.zip vs).foldl (fun t y=>t.setIfInBounds y.1 y.2) a.tmps,defers:=[] }
 |[],x,vs,σ,a,h,ar,a1,aJ=>by
  have:({ tmps:=a.tmps,defers:=[] } :Act)=a:=by have:=h.defers;cases a;simp_all
  simp only[List.zip_nil_left,List.foldl_nil]
  rw[this]
  exact⟨by cases x<;>exact h,fun T av _ af=>af⟩
 |p::ps,[],vs,σ,a,h,ar,a1,aJ=>by simp at aJ
 |p::ps,d::x,vs,σ,a,h,ar,a1,aJ=>by
  simp only[bV]at ar
  obtain⟨v,us,rfl,h1,h2⟩:=ar
  have au:=h.put (dst:=some p) (by simp[h8,a1 p (by simp)]) (tq (β:=β) h1)
  obtain⟨bE,bM⟩:=Ys (ps:=ps) au h2 (fun q a7=>a1 q (by simp[a7])) (by simpa using aJ)
  refine⟨bE,fun T av cf af=>bM T av (fun q a7=>cf q (by simp[a7])) (af.put (fun y hy=> ?_) v)⟩
  simp only[Option.some.injEq]at hy
  subst hy
  exact cf p (by simp)
def ky (D:Nat):Deferred:= { target:= .collected D,args:= #[] }
def y5 (ot:Nat→Option Obj) (Ds:List Nat):Prop:=Ds.Nodup∧∀D∈Ds,ot D=some (.deferred (some []))
def DA (N:Nat) (W:World) (aP:Mem) (R:bU) (Q:e6→St→Prop) (e:Exit) (ct:Act) (w':World):Prop:=
 ∃(Ds:List Nat) (ot:Nat→Option Obj) (dj:Act),ct=fP dj (Ds.map ky)∧y5 ot Ds∧(∀D∈Ds,W.heap.size≤D)∧Dx N ⟨W,ot⟩ aP R Q e dj w'
def pw (P:Program) (B:Mem) (S:Nat→Option qG):Prop:=∀f C,S f=some C→afL P B f C
theorem OE (ds:Option (List Deferred)):yZ (.deferred ds):=fun c t cE e=>by cases e
theorem xH (r:Loop):yZ (.loop r):=fun c t cE e=>by cases e
theorem ajz (hm:P.follows .mixedOrders=true) (c0:ae P aP Γ) {S:Nat→Option qG} (oL:pw P aP S) {M0:Nat} (cb:M0≤N) {W:World} {ot:Nat→Option Obj} {Tf:Operand} {ps:Array Tmp} {pH body:Code} {g:bB} {cI dC:ay}
 (bh:eh P Tf=some g) (a9:ed P M0 pH=some cI) (aw:ed P M0 body=some dC) (Tg:ps.toList.all (fun p=>decide (p<M0))=true) {Q:e6→St→Prop} {Ds:List Nat}
 (h:bl N ⟨W,ot⟩ aP R σ a w rd β) (hp:y5 ot Ds) (ih:∀D∈Ds,W.heap.size≤D) (af:iM Γ S (.EU g ps.toList (ps.toList++p3 pH++p3 body) cI dC) Q σ):
 (Code.rangeFunc Tf ps pH body).wpIn (hL none) n P (DA N W aP R Q) (fP a (Ds.map ky)) w:=by
 obtain⟨ws,MR⟩:∃ws,ws=ps.toList++p3 pH++p3 body:=⟨_,rfl⟩
 rw[←MR]at af
 simp only[iM]at af
 split at af
 rotate_left
 ·exact af.elim
 rename_i f cap aoo
 split at af
 rotate_left
 ·exact af.elim
 rename_i C g4
 obtain⟨LL,I,M,cJ,aop,alv,al5⟩:=af
 have uc:=e4 h bh
 rw[aoo]at uc
 simp only[aX,bA]at uc
 obtain⟨gi,Ti,amM,bX,ch⟩:=uc
 have aoq:gi= #[]:=by
  simp only[bV]at bX
  exact Array.toList_eq_nil_iff.1 bX
 subst aoq
 obtain⟨al6,cA⟩:=oL f C g4
 refine wpIn_rangeFunc ?_
 intro fn _
 obtain⟨rec,vp⟩:∃rec:LoopState→Option Code→Loop,rec=fun st kV=> { state:=st,pending:=kV,fn,tmps:=a.tmps,params:=ps,assign:=pH,body,defers:=w.heap.size } :=⟨_,rfl⟩
 obtain⟨xp,MS⟩:∃xp,(w.alloc (.deferred (some []))).alloc (.loop (rec .ready none))=xp:=⟨_,rfl⟩
 have aor:xp.heap[w.heap.size+1]? =some (.loop (rec .ready none)):=by
  rw[←MS];have:=World.alloc_heap_new (w.alloc (.deferred (some []))) (.loop (rec .ready none));rwa [World.size_alloc]at this
 have ua:Below w.heap.size w xp:=by
  rw[←MS];exact((Below.refl _ w).alloc (Nat.le_refl _) _).alloc (by simp) _
 have aos:xp.heap[w.heap.size]? =some (.deferred (some [])):=by
  rw[←MS];exact(Below.heap_alloc _ _ _ (by simp)).trans (World.alloc_heap_new w _)
 have aot:W.heap.size≤w.heap.size:=h.cV.size
 obtain⟨ij,LR⟩:∃ij,ij=lr ot w.heap.size (.deferred (some [])):=⟨_,rfl⟩
 have afM:bl N ⟨W,ij⟩ aP R σ a xp rd β:=by
  refine(h.below ua).HN fun k o af=> ?_
  rw[LR]at af
  simp only[lr]at af
  split at af
  ·rename_i e
   subst e
   simp only[Option.some.injEq]at af;subst af
   exact⟨.inl (OE _),aos⟩
  ·exact(h.below ua).dy k o af
 have amN:∀p∈ps.toList,p<N:=fun p a1=>by
  exact Nat.lt_of_lt_of_le (of_decide_eq_true (List.all_eq_true.1 Tg p a1)) cb
 refine⟨w.heap.size+1,[ky w.heap.size],xp,{ target:= .fn (.func f) Ti,args:= #[.func (.yield (w.heap.size+1)) #[] #[]] },xp,f,#[.func (.yield (w.heap.size+1)) #[] #[]]++Ti,xp,?_,?_,fun _ _=>trivial,?_,fun aL=>by simp[hL,Fence.wide]at aL,?_⟩
 ·rw[←MS,vp];exact run_enterLoop_outer _ _ _ _ _
 ·rw[OS]
  simp only[resolve,amM]
  simp[go_sem]
 ·simp[invoke,go_sem,On al6]
 obtain⟨xq,MT⟩:∃xq:(Nat→Option Obj)→Prop,xq=fun p=>∀b o,p b=some o→w.heap.size+2≤b∧∃c t cE,o= .cells c t cE:=⟨_,rfl⟩
 obtain⟨J,s9⟩:∃J:Nat→(Nat→Option Obj)→Mem→World→Prop,J=fun k p m w'=>(∃σ' rd' β',I k σ'∧bl N ⟨W,jS ij p⟩ aP R σ' a w' rd' β'∧b7 m rd')∧w'.heap[w.heap.size+1]? =some (.loop (rec .ready none))∧xq p:=⟨_,rfl⟩
 obtain⟨Jx,It⟩:∃Jx:(Nat→Option Obj)→World→Prop,Jx=fun p w'=>∃(e:e6) (c:Code),(match e with| .exit j=>c= .exit j| .ret=>c= .ret| .normal=>False)∧iS N ⟨W,jS ij p⟩ aP R (Q e) a w'∧w'.heap[w.heap.size+1]? =some (.loop (rec .done (some c)))∧xq p:=⟨_,rfl⟩
 have QH:∀k o,ij k=some o→k<w.heap.size+1:=fun k o af=>by
  rw[LR]at af
  simp only[lr]at af
  split at af
  ·omega
  ·have:=(Array.getElem?_eq_some_iff.1 (h.dy k o af).2).1
   omega
 have B3:∀p,xq p→∀k,k<w.heap.size+2→p k=none:=fun p a1 k af=>by
  cases e:p k with
  |none=>rfl
  |some o=>rw[MT]at a1;have:=(a1 k o e).1;omega
 have afN:∀p b8 dH cL,xq p→Bw p b8 dH cL→w.heap.size+1<b8.heap.size→xq dH:=fun p b8 dH cL a1 g aJ=>by
  rw[MT]at a1⊢
  intro b o aw
  obtain⟨_,c9,fM⟩:=g.afK b o aw
  refine⟨?_,c9⟩
  cases e:p b with
  |none=>have:=fM e;omega
  |some df=>exact(a1 b df e).1
 have afO:∀{p b8 dH cL w6 gb kk},xq p→xq dH→bl N ⟨W,jS ij p⟩ aP R w6 a b8 gb kk→Bw p b8 dH cL→bl N ⟨W,jS ij dH⟩ aP R w6 a cL (xY b8 cL dH gb) kk:=fun {p b8 dH cL w6 gb kk} a1 tZ au g=>
  au.grow g (fun b o aw=>by
    have:=a1
    rw[MT]at this
    have h2:=this b o aw
    exact⟨by omega,h2.2⟩) fun k o af=>by have:=QH k o af;exact⟨B3 p a1 k (by omega),B3 dH tZ k (by omega)⟩
 refine(Zy (cA cap LL xp rd Ti (w.heap.size+1) M J Jx h.dK afM.c3 ch cJ ?_ ?_ ?_ ?_)).mono ?_
 ·rw[s9]
  exact⟨⟨_,rd,β,aop,(ake ij).symm▸afM.only ws,b7.refl _⟩,aor,by rw[MT];intro b o aw;cases aw⟩
 ·rw[s9]
  rintro k p m b8 dH ft cL ⟨⟨w6,gb,kk,hi,au,jh⟩,aJ,lu⟩ g hle amO hold Tj
  have bw:=(Array.getElem?_eq_some_iff.1 aJ).1
  have HO:=afN _ _ _ _ lu g bw
  refine⟨⟨w6,_,kk,hi,afO lu HO au g,fun aV v e=> ?_⟩,(g.block _ bw (B3 p lu _ (by omega))).trans aJ,HO⟩
  unfold xY
  split
  ·rename_i bw;exact jh aV v (hold aV v e bw)
  ·rw[if_pos (by rw[Tj aV v e];rfl)];exact amO aV v e
 ·rw[It]
  rintro p b8 dH cL ⟨e,c,he,⟨w6,gb,kk,a7,au⟩,aJ,lu⟩ g
  have bw:=(Array.getElem?_eq_some_iff.1 aJ).1
  have HO:=afN _ _ _ _ lu g bw
  exact⟨e,c,he,⟨w6,_,kk,a7,afO lu HO au g⟩,(g.block _ bw (B3 p lu _ (by omega))).trans aJ,HO⟩
 ·
  rw[s9,It]
  rintro k p m b8 x vs Tk aj ⟨⟨w6,gb,kk,hi,au,jh⟩,aJ,lu⟩ c6 n
  obtain⟨MU,al7⟩:=alv k x w6 Tk aj hi
  have jj:vs.size=ps.size:=by
   have:=yN c6
   simp only[Array.length_toList]at this
   have h2:=MU
   simp only[Array.length_toList]at h2
   omega
  have hy:=run_yield (P:=P) (args:=vs) aJ (by rw[vp];exact jj)
  rw[vp]at hy
  refine⟨fn,_,pH,body,hy,roundIn_of_wpIn (F:=hL none) trivial ?_⟩
  have bw:=(Array.getElem?_eq_some_iff.1 aJ).1
  have aou:jS ij p (w.heap.size+1)=none:=by
   rw[K7 (B3 p lu _ (by omega))]
   cases e:ij (w.heap.size+1)with
   |none=>rfl
   |some o=>have:=QH _ o e;omega
  have kG:bl N ⟨W,lr (jS ij p) (w.heap.size+1) (.loop (rec .ready none))⟩ aP R w6 a b8 gb kk:=au.HN fun j o aH=>by
   simp only[lr]at aH
   split at aH
   ·rename_i e
    subst e
    simp only[Option.some.injEq]at aH;subst aH
    exact⟨.inl (xH _),aJ⟩
   ·exact au.dy j o aH
  obtain⟨aov,ie⟩:=Ys (ps:=ps.toList) kG.als (c6.mono jh _ _) amN MU
  have cf:∀d∈ws,(fun t=> !ws.contains t) d=false:=fun d aL=>by simp[aL]
  have hX:=ie (fun t=> !ws.contains t) (fun t=>a.tmps.getD t undef) (fun p a1=>cf p (by rw[MR];simp[a1])) (fun t _=>rfl)
  have adU:=c0.mono au.dK
  have BP:(ps.zip vs).foldl (fun(t:Array Value) (y:Tmp×Value)=>t.setIfInBounds y.1 y.2) a.tmps=(ps.toList.zip vs.toList).foldl (fun t y=>t.setIfInBounds y.1 y.2) a.tmps:=by
   rw[←Array.foldl_toList,Array.toList_zip]
  have amP:(ps.zip vs).foldl (fun(t:Array Value) (x:Tmp×Value)=>match x with|(p,v)=>t.setIfInBounds p v) a.tmps=(ps.toList.zip vs.toList).foldl (fun t y=>t.setIfInBounds y.1 y.2) a.tmps:=BP
  have Rg:=PS (r:=some (w.heap.size+1)) (n:=n) (ds:=[]) (T:=fun t=> !ws.contains t) (av:=fun t=>a.tmps.getD t undef) hm adU cb pH a9 (fun d aL=>cf d (by rw[MR];simp[aL])) hX aov al7
  rw[xL]at Rg
  refine wpIn_mono (Q:=_) (by rw[←amP]at Rg;exact Rg) fun e b1 cL he=> ?_
  obtain⟨ep,rfl,amQ,he⟩:=he
  rw[xL]
  cases e with
  |normal=>
   obtain⟨asj,asl,asm,ud,Iu⟩:=he
   have fi:=(Iu.dy (w.heap.size+1) (.loop (rec .ready none)) (by simp[lr])).2
   refine⟨_,run_beginRound fi (by rw[vp]),?_⟩
   have aow:=Iu.LQ fi (xH _) (xH { rec .ready none with state:= .busy }) (by omega)
   have ye:=PS (r:=some (w.heap.size+1)) (n:=n) (ds:=[]) (T:=fun t=> !ws.contains t) (av:=fun t=>a.tmps.getD t undef) hm adU cb body aw (fun d aL=>cf d (by rw[MR];simp[aL])) amQ aow ud
   rw[xL]at ye
   refine wpIn_mono ye fun e oP r0 he=> ?_
   obtain⟨eM,rfl,amR,he⟩:=he
   rw[xL]
   have fin:∀{K:St→Prop},iS N ⟨W,lr (lr (jS ij p) (w.heap.size+1) (.loop (rec .ready none))) (w.heap.size+1) (.loop { rec .ready none with state:= .busy })⟩ gb R K eM r0→∀(jump:Option Code),
    (Instr.endRound (w.heap.size+1) jump).run P r0= .ok (.bool jump.isNone) (r0.putObj (w.heap.size+1) (.loop (rec (if jump.isNone then .ready else .done) jump)))∧
    b7 m (r0.putObj (w.heap.size+1) (.loop (rec (if jump.isNone then .ready else .done) jump))).cell?∧
    (r0.putObj (w.heap.size+1) (.loop (rec (if jump.isNone then .ready else .done) jump))).heap[w.heap.size+1]? =some (.loop (rec (if jump.isNone then .ready else .done) jump))∧
    ∃σ' rd' β',K σ'∧bl N ⟨W,jS ij p⟩ aP R (σ'.only ws) a (r0.putObj (w.heap.size+1) (.loop (rec (if jump.isNone then .ready else .done) jump))) rd' β'∧b7 m rd':=by
    rintro K ⟨σ',rd',β',cj,Tl⟩ jump
    have Tm:=(Tl.dy (w.heap.size+1) (.loop { rec .ready none with state:= .busy }) (by simp[lr])).2
    have amS:=(Array.getElem?_eq_some_iff.1 Tm).1
    have zW:=run_endRound (P:=P) jump Tm
    have aox:({ ({ rec .ready none with state:= .busy } :Loop)with state:=if jump.isNone then .ready else .done,pending:=jump } :Loop)=rec (if jump.isNone then .ready else .done) jump:=by rw[vp]
    rw[aox]at zW
    have Tn:=Tl.LQ Tm (xH _) (xH (rec (if jump.isNone then .ready else .done) jump)) (by omega)
    have zX:b7 m rd':=fun aV v e=>Tl.dK aV v (jh aV v e)
    have aoy:bl N ⟨W,jS ij p⟩ gb R σ' eM (r0.putObj (w.heap.size+1) (.loop (rec (if jump.isNone then .ready else .done) jump))) rd' β':=Tn.HN fun j o aH=>by
     by_cases EP:j=w.heap.size+1
     ·exfalso
      rw[EP,aou]at aH;cases aH
     ·exact Tn.dy j o (by simp only[lr,if_neg EP];exact aH)
    refine⟨zW,fun aV v e=>Tn.c3 aV v (zX aV v e),World.putObj_heap_same amS,σ',rd',β',cj,?_,zX⟩
    exact(aoy.alu au.dK (fun aV v e aJ=>au.aP aV v e aJ)).back au.size au.defers amR
   cases e with
   |normal=>
    obtain⟨zW,zX,Iv,σ',rd',β',cj,zY,Rh⟩:=fin he none
    exact⟨_,_,zW,zX,fun b o aw=>(zY.dy b o (G2 aw)).2,.inl ⟨rfl,⟨⟨σ'.only ws,rd',β',cj.1,zY,Rh⟩,Iv,lu⟩,cj.2⟩⟩
   |ret=>
    obtain⟨zW,zX,Iv,σ',rd',β',cj,zY,Rh⟩:=fin he (some .ret)
    exact⟨_,_,zW,zX,fun b o aw=>(zY.dy b o (G2 aw)).2,.inr ⟨rfl,.ret,.ret,rfl,⟨σ'.only ws,rd',β',cj,zY⟩,Iv,lu⟩⟩
   |exit j=>
    obtain⟨zW,zX,Iv,σ',rd',β',cj,zY,Rh⟩:=fin he (some (.exit j))
    exact⟨_,_,zW,zX,fun b o aw=>(zY.dy b o (G2 aw)).2,.inr ⟨rfl,.exit j,.exit j,rfl,⟨σ'.only ws,rd',β',cj,zY⟩,Iv,lu⟩⟩
   |_=>exact he.elim
  |exit j=>obtain⟨_,_,_,a7,_⟩:=he;exact a7.elim
  |ret=>obtain⟨_,_,_,a7,_⟩:=he;exact a7.elim
  |_=>exact he.elim
 ·
  rintro e cL ⟨v,rfl,adV⟩
  have QI:({ fP a (Ds.map ky)with defers:=[ky w.heap.size]++(fP a (Ds.map ky)).defers } :Act)=fP a ((w.heap.size::Ds).map ky):=by
   simp[fP,h.defers]
  have LS:y5 ij (w.heap.size::Ds):=by
   refine⟨List.nodup_cons.2 ⟨fun LO=> ?_,hp.1⟩,fun D qH=> ?_⟩
   ·have:=(Array.getElem?_eq_some_iff.1 (h.dy _ _ (hp.2 _ LO)).2).1
    omega
   ·rw[LR]
    simp only[lr]
    split
    ·rfl
    ·rename_i eZ
     rcases List.mem_cons.1 qH with e|e
     ·exact absurd e eZ
     ·exact hp.2 D e
  have LU:∀D∈w.heap.size::Ds,W.heap.size≤D:=fun D qH=>by
   rcases List.mem_cons.1 qH with rfl|e
   ·exact aot
   ·exact ih D e
  have ac1:∀{o:Obj} {σ':St} {rd':Mem} {β':bU} {o':Obj},bl N ⟨W,ij⟩ aP R σ' a cL rd' β'→cL.heap[w.heap.size+1]? =some o→yZ o→yZ o'→bl N ⟨W,ij⟩ aP R σ' a (cL.putObj (w.heap.size+1) o') rd' β':=fun {o σ' rd' β' o'} au aJ aQ zN=>by
   have cT:=au.LQ aJ aQ zN (by omega)
   refine cT.HN fun j x aH=> ?_
   by_cases EP:j=w.heap.size+1
   ·exfalso
    have MV:=aH
    rw[LR]at MV
    simp only[lr]at MV
    rw[if_neg (by omega)]at MV
    have:=(Array.getElem?_eq_some_iff.1 (h.dy j x MV).2).1
    omega
   ·exact cT.dy j x (by simp only[lr,if_neg EP];exact aH)
  have al8:∀{p:Nat→Option Obj} {σ':St} {rd':Mem} {β':bU},xq p→bl N ⟨W,jS ij p⟩ aP R σ' a cL rd' β'→bl N ⟨W,ij⟩ aP R σ' a cL rd' β':=fun {p σ' rd' β'} lu au=>
   au.HN fun j x aH=>au.dy j x (by show jS ij p j=some x;rw[K7 (B3 p lu j (by have:=QH j x aH;omega))];exact aH)
  rw[s9,It]at adV
  rcases adV with ⟨k,p,m,QF,⟨σ',rd',β',hi,au,_⟩,aJ,lu⟩|⟨p,e,c,he,⟨σ',rd',β',a7,au⟩,aJ,lu⟩<;>have au:=al8 lu au
  ·refine⟨none,_,by have:=run_endLoop (P:=P) aJ (by rw[vp];simp);rw[vp]at this;exact this,?_⟩
   have To:=ac1 (o':= .loop { rec .ready none with state:= .exhausted }) au aJ (xH _) (xH _)
   rw[vp]at To
   obtain⟨m,afP⟩:=al5 k σ' QF hi
   cases m with
   |none=>exact⟨w.heap.size::Ds,ij,a,QI,LS,LU,σ',rd',β',afP,To⟩
   |some i=>
    obtain⟨⟨b,et,kl⟩,a7⟩:=afP
    exact⟨w.heap.size::Ds,ij,a,QI,LS,LU,_,_,_,a7,To.iu et kl⟩
  ·refine⟨some c,_,by have:=run_endLoop (P:=P) aJ (by rw[vp];simp);rw[vp]at this;exact this,?_⟩
   have Tp:=ac1 (o':= .loop { rec .done (some c)with state:= .exhausted }) au aJ (xH _) (xH _)
   rw[vp]at Tp
   rw[QI]
   cases e with
   |normal=>exact he.elim
   |exit j=>
    simp only at he;subst he
    exact wpIn_exit ⟨w.heap.size::Ds,ij,a,rfl,LS,LU,σ',rd',β',a7,Tp⟩
   |ret=>
    simp only at he;subst he
    exact wpIn_ret ⟨w.heap.size::Ds,ij,a,rfl,LS,LU,σ',rd',β',a7,Tp⟩
end
end RV
namespace RV
open Go Go.RowKit
section
variable {N:Nat} {aU:eW} {aP:Mem} {R:bU} {σ σ':St} {a:Act} {w w':World} {rd rd':Mem} {β β':bU} {P:Program} {Γ:Env} {n:Nat}
theorem HK.toX {W:World} {ot:Nat→Option Obj} {Q:e6→St→Prop} {T:Nat→Bool} {av:Nat→Value} {Ds:List Nat} (hp:y5 ot Ds) (ih:∀D∈Ds,W.heap.size≤D) {e:Exit} {ct:Act} {w':World} (h:HK N ⟨W,ot⟩ aP R (Ds.map ky) T av Q e ct w'):DA N W aP R Q e ct w':=by
 obtain⟨dj,rfl,_,h⟩:=h
 exact⟨Ds,ot,dj,rfl,hp,ih,h⟩
theorem ajA (h:bl N aU aP R σ a w rd β) {o:Oper} {e:TypeId} {i j:Nat} (bQ:o.op= .alloc e) (qf:o.dst=some i) (hi:i<N) {inf:TypeInfo} (sw:P.info? e=some inf) (br:inf.zero=some (.slice none 0 0)) {ek:eG} {K:St→Prop}
 (af:K (((σ.fresh j ⟨false,false,r4 ek⟩).fresh i ⟨false,false,.cells [.own j 0 0]⟩).put (some i) (.box i 0))):fD P N aU aP R o a w K:=by
 have aQ:(r4 ek).isNil=true:=by cases ek<;>rfl
 have bX:=xI σ j ⟨false,false,r4 ek⟩ (rd:=rd) (β:=β)
 have h1:=h.aa6 (i:=j) (b:=⟨false,false,r4 ek⟩) rfl aQ (bX.rep none) bX.ag bX.az
 have ch:=xI (σ.fresh j ⟨false,false,r4 ek⟩) i ⟨false,false,.cells [.own j 0 0]⟩ (rd:=rd) (β:=fun k=>if k=j then none else β k)
 have h2:=PL h1 ch (arr:= #[.slice none 0 0]) (e:=e) (by
  simp only[b6,aX]
  exact⟨_,_,rfl,⟨none,0,rfl,Nat.le_refl _,.inl ⟨trivial,rfl⟩⟩,rfl⟩)
 have aL:h8 N o.dst=true:=by rw[qf];simp[h8,hi]
 refine fD.value (u:= .pointer (some (cellAt w.heap.size 0))) ?_ h2 (v:= .box i 0) ?_ aL (by rw[qf];exact af)
 ·simp only[execOp,bQ,Instr.alloc,Sem.run_bind,GK sw br,Result.andThen_ok,newVar,newRow,run_newObj,Sem.run_pure]
  rfl
 ·simp only[aX]
  exact⟨jb w _ 1,uK _ _ _,rfl⟩
theorem ai3 {M0:Nat} {ops:Array Oper} {i:Nat} {ek:eG} (h:LB P M0 ops=some (i,ek)):∃o e inf,ops.toList=[o]∧o.op= .alloc e∧o.dst=some i∧o.guard=none∧i<M0∧P.info? e=some inf∧inf.zero=some (.slice none 0 0):=by
 unfold LB at h
 split at h
 ·rename_i o bu
  split at h
  ·rename_i e d h1 h2 aq
   split at h
   ·rename_i t hu br
    split at h
    ·rename_i hi
     obtain⟨MW,_,he⟩:=map_some h
     simp only[Prod.mk.injEq]at he
     obtain⟨rfl,rfl⟩:=he
     cases sw:P.info? e with
     |none=>rw[sw]at br;cases br
     |some inf=>rw[sw]at br;exact⟨o,e,inf,bu,h1,h2,aq,hi,sw,br⟩
    ·cases h
   ·cases h
  ·cases h
 ·cases h
theorem ai4 {S:Nat→Option qG} {M0:Nat} (cb:M0≤N) {W:World} {ot:Nat→Option Obj} {id:Nat} {ops:Array Oper} {i j:Nat} {ek:eG} (MX:LB P M0 ops=some (i,ek)) {Q:e6→St→Prop} {Ds:List Nat}
 (h:bl N ⟨W,ot⟩ aP R σ a w rd β) (hp:y5 ot Ds) (ih:∀D∈Ds,W.heap.size≤D) (af:iM Γ S (.LP i j ek) Q σ):(Code.region id ops false).wpIn (hL none) n P (DA N W aP R Q) (fP a (Ds.map ky)) w:=by
 obtain⟨o,e,inf,bu,bQ,qf,bh,hi,sw,br⟩:=ai3 MX
 simp only[iM]at af
 have fG:ops.size=1:=by rw[←Array.length_toList,bu];rfl
 have aoz:ops[0]? =some o:=by rw[←Array.getElem?_toList,bu];rfl
 refine wpIn_region ?_
 rw[fG]
 show wpOpsIn (hL none) n P ops (DA N W aP R Q) [0] _ _
 simp only[wpOpsIn,aoz]
 have hw:Region.wanted o (yielded ops (fP a (Ds.map ky)).tmps)=true:=by simp[Region.wanted,bh]
 rw[if_pos hw]
 have Tq:=ajA (j:=j) (ek:=ek) h bQ qf (Nat.lt_of_lt_of_le hi cb) sw br af (fun ct w'=>iS N ⟨W,ot⟩ aP R (Q .normal) ct w') (fun _ _ _=>False) fun σ' ct w' rd' β' cn cT=>⟨σ',rd',β',cn,cT⟩
 exact K6 (r:=none) (n:=n) (ds:=Ds.map ky) (fun c e=>by rw[bQ]at e;cases e) (by rintro⟨_,_,h⟩;exact h) Tq (fun ct w' v ms e eU=>⟨Ds,ot,ct,rfl,hp,ih,eU⟩) (fun _ _ h=>h.elim)
theorem akO (hm:P.follows .mixedOrders=true) (c0:ae P aP Γ) {S:Nat→Option qG} (oL:pw P aP S) {M0:Nat} (cb:M0≤N) {W:World} :∀(c:Code) {da:oO} {Q:e6→St→Prop} {σ:St} {a:Act} {w:World} {rd:Mem} {β:bU} {ot:Nat→Option Obj} {Ds:List Nat},wI P M0 c=some da→
 bl N ⟨W,ot⟩ aP R σ a w rd β→y5 ot Ds→(∀D∈Ds,W.heap.size≤D)→iM Γ S da Q σ→c.wpIn (hL none) n P (DA N W aP R Q) (fP a (Ds.map ky)) w:=by
 intro c
 have plain:∀{c:Code} {lc:ay} {Q:e6→St→Prop} {σ:St} {a:Act} {w:World} {rd:Mem} {β:bU} {ot:Nat→Option Obj} {Ds:List Nat},ed P M0 c=some lc→
  bl N ⟨W,ot⟩ aP R σ a w rd β→y5 ot Ds→(∀D∈Ds,W.heap.size≤D)→iM Γ S (.c lc) Q σ→c.wpIn (hL none) n P (DA N W aP R Q) (fP a (Ds.map ky)) w:=by
  intro c lc Q σ a w rd β ot Ds ah h hp ih af
  simp only[iM]at af
  exact wpIn_mono (PS (T:=fun _=>false) (av:=fun _=>undef) hm c0 cb c ah (fun _ _=>rfl) (fun t ah=>by cases ah) h af) fun e ct w' he=>he.toX hp ih
 induction c with
 |seq x y lq sT=>
  intro da Q σ a w rd β ot Ds ah h hp ih af
  simp only[wI]at ah
  split at ah
  ·rename_i l aJ
   simp only[Option.some.injEq]at ah;subst ah
   exact plain aJ h hp ih af
  ·split at ah
   ·rename_i da hK aj hy
    simp only[Option.some.injEq]at ah;subst ah
    simp only[iM]at af
    refine wpIn_seq (wpIn_mono (lq aj h hp ih af) fun e ct w' he=> ?_)
    obtain⟨B5,sV,dj,rfl,zn,zo,he⟩:=he
    cases e with
    |normal=>obtain⟨σ',rd',β',h1,h2⟩:=he;exact sT hy h2 zn zo h1
    |exit id=>exact⟨B5,sV,dj,rfl,zn,zo,he⟩
    |ret=>exact⟨B5,sV,dj,rfl,zn,zo,he⟩
    |_=>exact he.elim
   ·cases ah
 |block id x cM=>
  intro da Q σ a w rd β ot Ds ah h hp ih af
  simp only[wI]at ah
  split at ah
  ·rename_i l aJ
   simp only[Option.some.injEq]at ah;subst ah
   exact plain aJ h hp ih af
  ·obtain⟨da,aj,rfl⟩:=map_some ah
   simp only[iM]at af
   refine wpIn_block (wpIn_mono (cM aj h hp ih af) fun e ct w' he=> ?_)
   obtain⟨B5,sV,dj,rfl,zn,zo,he⟩:=he
   cases e with
   |normal=>exact⟨B5,sV,dj,rfl,zn,zo,he⟩
   |exit j=>
    obtain⟨σ',rd',β',h1,h2⟩:=he
    simp only at h1
    unfold Exit.inBlock
    simp only
    split at h1
    ·rename_i aH;rw[if_pos aH];exact⟨B5,sV,dj,rfl,zn,zo,σ',rd',β',h1,h2⟩
    ·rename_i aH;rw[if_neg aH];exact⟨B5,sV,dj,rfl,zn,zo,σ',rd',β',h1,h2⟩
   |ret=>exact⟨B5,sV,dj,rfl,zn,zo,he⟩
   |_=>exact he.elim
 |region id ops d=>
  intro da Q σ a w rd β ot Ds ah h hp ih af
  simp only[wI]at ah
  split at ah
  ·rename_i i ek MX
   simp only[Option.some.injEq]at ah;subst ah
   cases d with
   |true=>simp at MX
   |false=>exact ai4 cb (by simpa using MX) h hp ih af
  ·obtain⟨l,aJ,rfl⟩:=map_some ah
   exact plain aJ h hp ih af
 |rangeFunc Tf ps pH body _ _=>
  intro da Q σ a w rd β ot Ds ah h hp ih af
  simp only[wI]at ah
  split at ah
  ·rename_i g cI dC h1 h2 aq
   split at ah
   ·rename_i Tg
    simp only[Option.some.injEq]at ah;subst ah
    exact ajz hm c0 oL cb h1 h2 aq Tg h hp ih af
   ·cases ah
  ·cases ah
 |_=>
  intro da Q σ a w rd β ot Ds ah h hp ih af
  simp only[wI]at ah
  obtain⟨l,aJ,rfl⟩:=map_some ah
  exact plain aJ h hp ih af
theorem Xk {W:World} {fn:Func} {tmps:Array Value} {ahr:Ending→World→Prop} :∀(Ds:List Nat) {ot:Nat→Option Obj} {σ:St} {a:Act} {w:World} {rd:Mem} {β:bU},y5 ot Ds→(∀D∈Ds,W.heap.size≤D)→bl N ⟨W,ot⟩ aP R σ a w rd β→
 (∀(w':World) (sV:Nat→Option Obj),bl N ⟨W,sV⟩ aP R σ a w' rd β→∃v,(results fn tmps).run P w'= .ok v w'∧ahr (.returned v) w')→LeavesInM (hL none) n P fn tmps ahr (Ds.map ky) .returning w
 |[],ot,σ,a,w,rd,β,_,_,h,ar=>ar w ot h
 |D::Ds,ot,σ,a,w,rd,β,hp,ih,h,ar=>by
  have qH:=hp.2 D (by simp)
  have aw:=(h.dy D _ qH).2
  refine⟨(fun e=>by cases e),.inl ⟨D,w.putObj D (.deferred none),rfl,run_takeDeferred aw,?_⟩⟩
  have hnd:=List.nodup_cons.1 hp.1
  refine Xk (W:=W) Ds (ot:=lr ot D (.deferred none)) ⟨hnd.2,fun Wu MY=> ?_⟩ (fun Wu MY=>ih Wu (by simp[MY])) (h.LQ aw (OE _) (OE _) (ih D (by simp))) ar
  simp only[lr]
  split
  ·rename_i e;subst e;exact absurd MY hnd.1
  ·exact hp.2 Wu (by simp[MY])
theorem tu (hm:P.follows .mixedOrders=true) {B:Mem} (c0:ae P B Γ) {S:Nat→Option qG} (oL:pw P B S) {f:Nat} {fn:Func} (fR:P.funcs[f]? =some fn) (vG:(fn.name== "runtime.NumGoroutine")=false) {da:oO} {rs:List bx} (hf:CY P f=some (da,rs)) {C:bC}
 (h:∀ds,C.pre ds→Dz Γ S da rs ds fun d=>d=C.res ds) (bu:C.own=false:=by rfl):ld P B f C:=by
 simp only[CY,fR]at hf
 split at hf
 ·rename_i c au
  split at hf
  ·rename_i l sU ah gd
   simp only[Option.some.injEq,Prod.mk.injEq]at hf
   obtain⟨rfl,rfl⟩:=hf
   refine⟨⟨fn,fR,vG,by rw[au];rfl⟩,fun ds a1 w rd vs ad sx fQ=> ?_⟩
   have af:=h ds a1
   unfold Dz at af
   refine(callsIn_wide (n:=0)).1 (callsIn_of_wp_marks (F:=hL none) fR au trivial ?_ rfl)
   have EL:w.base.heap.size=w.heap.size:=rfl
   have vd:=KC (N:=(vs++Array.replicate (fn.ntmps - vs.size) undef).size) sx fQ (fn.ntmps - vs.size) rfl
   have aoA:pw P rd S:=fun f C e=>⟨(oL f C e).1,fun ds a1 w gb dC l M J Jx aw=>(oL f C e).2 ds a1 w gb dC l M J Jx (ad.trans aw)⟩
   have aj:=akO (n:=0) (Ds:=[]) hm (c0.mono ad) aoA (M0:=fn.ntmps) (by simp;omega) c ah (show bl _ ⟨w,fun _=>none⟩ rd _ _ _ w rd _ from vd) ⟨List.nodup_nil,fun D qH=>by cases qH⟩ (fun D qH=>by cases qH) af
   rw[List.map_nil,xL]at aj
   refine wpIn_mono aj ?_
   rintro e a w' ⟨Ds,ot,dj,rfl,hp,ih,he⟩
   have done:iS (vs++Array.replicate (fn.ntmps - vs.size) undef).size ⟨w,ot⟩ rd (fun _=>none) (fun σ=>kA sU σ fun d=>d=C.res ds) dj w'→
    LeavesInM (hL none) 0 P fn (fP dj (Ds.map ky)).tmps (fun e w'=>∃v,e= .returned v∧Below w.heap.size w w'∧zl C rd w w' (C.res ds) v) (fP dj (Ds.map ky)).defers .returning w':=by
    rintro⟨σ,rd',β,ar,di⟩
    have jl:(fP dj (Ds.map ky)).defers=Ds.map ky:=by simp[fP,di.defers]
    rw[jl]
    refine Xk (W:=w) Ds hp ih di fun w' sV di=> ?_
    show∃v,(results fn dj.tmps).run P w'= .ok v w'∧_
    unfold kA at ar
    split at ar
    ·rename_i kI aJ
     obtain⟨HJ,ar⟩:=ar
     split at ar
     ·rename_i tW hE
      obtain⟨us,bE,bM⟩:=CF di gd aJ
      have zL:=toDs_rep di (S:=ja β kI) kI us tW hE bM fun i r aV hi eC fz=>⟨i,r,hi,eC,fz⟩
      have hle:b7 (plus w' (ja β kI) rd') (jR w w' rd):=fun aV v e=>by
       unfold jR
       split
       ·rename_i bw
        by_cases aG:ja β kI aV
        ·exfalso
         obtain⟨i,r,hi,eC,a9⟩:=aG
         obtain⟨b,aj,_,_,gZ,_⟩:=di.box i r eC
         have h1:w.heap.size≤r.cc:=(gZ (yV kI HJ i b hi aj)).1
         have:=a9.1
         omega
        ·rw[wy aG]at e
         exact di.aP aV v e bw
       ·exact wC di.c3 aV v e
      refine⟨_,?_,_,rfl,di.cV.toBelow,fun _=>ar▸Pu (bV.mono hle _ _ zL),fun au=>by rw[bu]at au;cases au⟩
      have vn:=Gq (P:=P) (w:=w') fn.results.toList bE
      unfold results
      rw[Array.mapM_eq_mapM_toList]
      simp only[Sem.run_bind,Sem.run_map]
      exact congrArg (fun r:Result (List Value)=>(r.andThen fun a w'=>Result.ok a.toArray w').andThen fun(a:Array Value) w'=>Sem.run P (pure (if h:a.size=1 then a[0]else Value.tuple a)) w') vn
     ·exact ar.elim
    ·exact ar.elim
   cases e with
   |normal=>exact done he
   |ret=>exact done he
   |exit id=>obtain⟨_,_,_,h1,_⟩:=he;exact h1.elim
   |_=>exact he.elim
  ·cases hf
 ·cases hf
end
def St.keeps (σ:St) (i:Nat):Bool:=match σ.az i with
 |some b=> !b.cE && b.c.pure
 |none=>false
def St.still (σ:St):St:=⟨fun t=>if (σ.ag t).ids.all σ.keeps=true then σ.ag t else .any,fun i=>if σ.keeps i=true then (σ.az i).map (fun b=>⟨b.cE,true,b.c⟩)else none⟩
structure fX where
 k:Nat
 b:Bool
def Iw (E:Nat→Option (List D)) (M:Nat) (dst:Option Nat) (y:fX) (σ:St) (K:fX→St→Prop) (vs:List ai):Prop:=
 y.b=true∧ai.hl vs=true∧match toDs σ vs with
   |some ds=>E y.k=some ds∧(y.k+1<M→K ⟨y.k+1,true⟩ (σ.still.put dst (.d (.bool true))))∧K ⟨y.k,false⟩ (σ.still.put dst (.d (.bool false)))
   |none=>False
def EV (σ:St):bJ→Option (Nat×List bB)
 | .hS x as=>match σ.a3 x with
   | .dF l=>some (l,as)
   |_=>none
 |_=>none
def h9 (Γ:Env) (E:Nat→Option (List D)) (M l:Nat) (K:fX→St→Prop):List bW→fX→St→Prop
 |[],y,σ=>K y σ
 |o::r,y,σ=>match EV σ o.op with
  |some (xn,as)=>xn=l∧o.guard=none∧Iw E M o.dst y σ (h9 Γ E M l K r) (cG σ as)
  |none=>guarded σ o.guard (db Γ o.dst σ (h9 Γ E M l K r y) o.op) (h9 Γ E M l K r y (σ.put o.dst .dt))
def fI (Γ:Env) (E:Nat→Option (List D)) (M l:Nat):ay→(e6→fX→St→Prop)→fX→St→Prop
 | .skip,Q,y,σ=>Q .normal y σ
 | .cR ops,Q,y,σ=>h9 Γ E M l (Q .normal) ops y σ
 | .kd pre w2,Q,y,σ=>c2 Γ (eQ Γ (Q .normal y) w2) pre (k8 σ pre)
 | .seq a b,Q,y,σ=>fI Γ E M l a (fun e y s=>match e with| .normal=>fI Γ E M l b Q y s|e=>Q e y s) y σ
 | .cond c a b,Q,y,σ=>match σ.a3 c with
   | .d (.bool t)=>(t=true→fI Γ E M l a Q y σ)∧(t=false→fI Γ E M l b Q y σ)
   |_=>False
 | .block id a,Q,y,σ=>fI Γ E M l a (fun e y s=>match e with| .exit j=>if j=id then Q .normal y s else Q (.exit j) y s|e=>Q e y s) y σ
 | .loop a,Q,y,σ=>∃(I:fX→St→Prop) (eI:fX→St→Nat),I y σ∧∀z s,I z s→fI Γ E M l a (fun e g5 dM=>match e with| .normal=>I g5 dM∧eI g5 dM<eI z s|e=>Q e g5 dM) z s
 | .exit id,Q,y,σ=>Q (.exit id) y σ
 | .ret,Q,y,σ=>Q .ret y σ
def vH (l:Nat) (ds:List D):St:=⟨fun t=>match t with|0=> .dF l|t+1=>match ds[t]? with|some d=>dn d|none=> .dt,fun _=>none⟩
def DB (Γ:Env) (E:Nat→Option (List D)) (M l:Nat) (lc:ay) (ds:List D):Prop:=
 fI Γ E M l lc (fun e y _=>(match e with| .exit _=>False|_=>True)∧(y.b=true→E y.k=none)) ⟨0,true⟩ (vH l ds)
end RV
namespace RV
open Go Go.RowKit
section
variable {N:Nat} {aU:eW} {aP pI:Mem} {R:bU} {σ σ':St} {a:Act} {w w':World} {rd rd':Mem} {β β':bU} {P:Program} {Γ:Env} {n:Nat} {ops:Array Oper}
mutual
theorem ab7:∀v:ai,v.dG (fun i=>i)=v
 | .d _=>rfl
 | .agg cs=>by simp only[ai.dG,K8 cs]
 | .box _ _=>rfl
 | .own _ _ _=>rfl
 | .ea _ _ _=>rfl
 | .dr _ x y=>by simp only[ai.dG,K8 x,K8 y]
 | .dF _=>rfl
 | .dt=>rfl
 | .any=>rfl
theorem K8:∀vs:List ai,ai.ga (fun i=>i) vs=vs
 |[]=>rfl
 |v::vs=>by simp only[ai.ga,ab7 v,K8 vs]
end
def xZ (σ:St) (β:bU):bU:=fun i=>if σ.keeps i=true then (β i).map dp.part else none
theorem Gz {i:Nat} {r':dp} (h:xZ σ β i=some r'):σ.keeps i=true∧∃r,β i=some r∧r'=r.part:=by
 unfold xZ at h
 split at h
 ·rename_i af
  cases e:β i with
  |none=>rw[e]at h;cases h
  |some r=>rw[e]at h;simp only[Option.map_some,Option.some.injEq]at h;exact⟨af,r,rfl,h.symm⟩
 ·cases h
theorem Kr {i:Nat} (h:σ.keeps i=true):∃b,σ.az i=some b∧b.cE=false∧b.c.pure=true:=by
 unfold St.keeps at h
 split at h
 ·rename_i b aw
  simp only[Bool.and_eq_true,Bool.not_eq_true']at h
  exact⟨b,aw,h.1,h.2⟩
 ·cases h
theorem XV (h:bl N aU aP R σ a w rd β) {cL:World} (hm:b7 rd cL.cell?) (af:∀i r,σ.keeps i=true→β i=some r→cL.heap[r.cc]? =w.heap[r.cc]?):bl N cL.base rd (xZ σ β) σ.still a cL rd (xZ σ β)where
 size:=h.size
 defers:=h.defers
 cV:=iZ.refl _ _
 dy:=fun k o af=>by cases af
 c3:=hm
 dK:=b7.refl _
 aP:=fun _ _ e _=>e
 eX:=fun i r b hi aj br aV a9=>by
  obtain⟨ie,hI,h0,rfl⟩:=Gz hi
  obtain⟨dc,iy,hf,_⟩:=Kr ie
  exact h.eX i hI dc h0 iy hf aV (dp.AQ a9)
 eY:=fun t=>by
  simp only[St.still]
  split
  ·rename_i gY
   have:=aac (g:=fun i=>i) (β':=xZ σ β) _ _ (fun i hi r ar=> ?_) (h.eY t)
   ·rwa [ab7]at this
   ·have ie:=List.all_eq_true.1 gY i (aad _ i hi)
    exact⟨r.part,by simp only[xZ,if_pos ie,ar,Option.map_some],rfl,rfl,rfl,rfl⟩
  ·simp only[aX]
 box:=fun i r hi=>by
  obtain⟨ie,hI,h0,rfl⟩:=Gz hi
  obtain⟨dc,iy,hf,kH⟩:=Kr ie
  obtain⟨b,aj,au,a1,bE,bM⟩:=h.box i hI h0
  rw[iy]at aj;simp only[Option.some.injEq]at aj;subst aj
  have ua:=af i hI ie h0
  refine⟨⟨dc.cE,true,dc.c⟩,by simp only[St.still,if_pos ie,iy,Option.map_some],?_,?_,(fun e=>by cases e),fun _=>⟨hi,rfl⟩⟩
  ·have Iu:fq cL rd (xZ σ β) hI dc.c:=au.mono (b7.refl _) (fun j _ _=>uH ua) fun cs e v aC u H=>by
    rw[e]at kH
    exact aX.congr v u (fun j aH=>by
     have h1:=CM cs kH j
     have h2:ai.cY j cs=true:=KM aC aH
     rw[h1]at h2;cases h2) H
   cases e:dc.c with
   |_=>rw[e]at Iu;exact Iu
  ·obtain⟨arr,t,cE,dw,eK,e9,_⟩:=a1.AO ua
   exact⟨arr,t,cE,dw,eK,e9,fun e=>by cases e⟩
 eL:=fun i b aw hi=>by
  simp only[St.still]at aw
  split at aw
  ·rename_i ie
   obtain⟨dc,iy,_,_⟩:=Kr ie
   rw[iy]at aw
   simp only[Option.map_some,Option.some.injEq]at aw
   subst aw
   have aQ:β i=none:=by
    cases e:β i with
    |none=>rfl
    |some r=>simp only[xZ,if_pos ie,e,Option.map_some]at hi;cases hi
   exact⟨fun _=>hi,(h.eL i dc iy aQ).2⟩
  ·cases aw
 eR:=fun i j aD iQ afQ hi aH aV a9 aw=>by
  obtain⟨_,bX,h1,rfl⟩:=Gz hi
  obtain⟨_,ch,h2,rfl⟩:=Gz aH
  exact h.eR i j bX ch afQ h1 h2 aV (dp.AQ a9) (dp.AQ aw)
noncomputable def tI (σ:St) (β:bU) (w:World):Nat→Option Obj:=fun k=>open Classical in if∃i r,σ.keeps i=true∧β i=some r∧r.cc=k then w.heap[k]? else none
def LC (R:bU) (p:Nat→Option Obj) (w:World):Prop:=∀i r,R i=some r→p r.cc≠none∧r.off=0∧∃arr t,w.heap[r.cc]? =some (.cells arr t (0,0))∧arr.size=r.len
def Wv (N M:Nat) (aP:Mem) (J:Nat→(Nat→Option Obj)→Mem→World→Prop) (Jx:(Nat→Option Obj)→World→Prop) (y:fX) (σ:St) (a:Act) (w:World):Prop:=
 ∃(W:World) (pI rd:Mem) (β R:bU) (p:Nat→Option Obj),bl N W.base pI R σ a w rd β∧b7 aP pI∧LC R p W∧(y.b=true→J y.k p pI W∧y.k<M)∧(y.b=false→Jx p W)
def F1 (N M:Nat) (aP:Mem) (J:Nat→(Nat→Option Obj)→Mem→World→Prop) (Jx:(Nat→Option Obj)→World→Prop) (K:fX→St→Prop) (a:Act) (w:World):Prop:=
 ∃(y:fX) (σ:St),K y σ∧Wv N M aP J Jx y σ a w
def amT (N M:Nat) (aP:Mem) (J:Nat→(Nat→Option Obj)→Mem→World→Prop) (Jx:(Nat→Option Obj)→World→Prop) (Q:e6→fX→St→Prop):Exit→Act→World→Prop
 | .normal,a,w=>F1 N M aP J Jx (Q .normal) a w
 | .exit id,a,w=>F1 N M aP J Jx (Q (.exit id)) a w
 | .ret,a,w=>F1 N M aP J Jx (Q .ret) a w
 |_,_,_=>False
theorem KV {W:World} {pI:Mem} {p:Nat→Option Obj} (h:bl N W.base pI R σ a w rd β) (j4:LC R p W) {i:Nat} {r:dp} (hi:β i=some r):r.off=0∧∃arr t,w.heap[r.cc]? =some (.cells arr t (0,0))∧arr.size=r.len:=by
 obtain⟨b,aj,_,a1,h1,h2⟩:=h.box i r hi
 cases he:b.ext with
 |false=>
  obtain⟨arr,t,cE,dw,_,_,oN⟩:=a1
  obtain⟨dg,dP,rfl⟩:=oN (h1 he).2
  exact⟨dg,arr,t,dw,dP⟩
 |true=>
  obtain⟨_,f2,arr,t,f3,f4⟩:=j4 i r (h2 he).1
  refine⟨f2,?_⟩
  have bw:r.cc<W.base.heap.size:=(Array.getElem?_eq_some_iff.1 f3).1
  rcases h.cV.block _ bw with e|⟨c,v5,cE,c',a4,bc,c8,_⟩
  ·exact⟨arr,t,e.trans f3,f4⟩
  ·have f3':W.base.heap[r.cc]? =some (.cells arr t (0,0)):=f3
   rw[f3']at a4
   simp only[Option.some.injEq,Obj.cells.injEq]at a4
   obtain⟨rfl,rfl,rfl⟩:=a4
   exact⟨c',t,bc,c8.trans f4⟩
theorem KW {W:World} {pI:Mem} {p:Nat→Option Obj} (h:bl N W.base pI R σ a w rd β) (j4:LC R p W):
 Bw p W (tI σ β w) w∧∀aV v,rd aV=some v→tI σ β w aV.block=none:=by
 refine⟨⟨h.cV.os,h.cV.tape,h.cV.output,h.cV.size,fun k af aQ=> ?_,fun k o bu=> ?_⟩,fun aV v e=> ?_⟩
 ·have cn:k<W.base.heap.size:=af
  rcases h.cV.block k cn with e|⟨c,t,cE,c',a4,bc,c8,cW⟩
  ·exact e
  ·have:c'=c:=Array.ext_getElem? fun o=>cW o fun j r aH ar=>(j4 j r aH).1 (by rw[←ar.1];exact aQ)
   rw[bc,this]
   exact a4.symm
 ·unfold tI at bu
  split at bu
  ·rename_i hex
   obtain⟨i,r,ie,hi,rfl⟩:=hex
   obtain⟨_,arr,t,dw,_⟩:=KV h j4 hi
   have ji:=bu
   rw[dw]at ji
   simp only[Option.some.injEq]at ji
   refine⟨bu,⟨arr,t,_,ji.symm⟩,fun aQ=> ?_⟩
   obtain⟨b,aj,_,a1,h1,h2⟩:=h.box i r hi
   cases he:b.ext with
   |false=>exact(h1 he).1
   |true=>exact absurd aQ (j4 i r (h2 he).1).1
  ·cases bu
 ·cases q:tI σ β w aV.block with
  |none=>rfl
  |some o=>
   exfalso
   unfold tI at q
   split at q
   ·rename_i hex
    obtain⟨i,r,ie,hi,aw⟩:=hex
    obtain⟨z,arr,t,dw,eK⟩:=KV h j4 hi
    obtain⟨dc,iy,hf,_⟩:=Kr ie
    have hw:=h.c3 aV v e
    have fz:r.has aV:=by
     refine⟨aw.symm,.inr ?_⟩
     rw[World.cell?,←aw,dw]at hw
     simp only at hw
     split at hw
     ·cases hw
     ·have:=(Array.getElem?_eq_some_iff.1 hw).1
      omega
    rw[h.eX i r dc hi iy hf aV fz]at e
    cases e
   ·cases q
section
variable {E:Nat→Option (List D)} {M l:Nat} {J:Nat→(Nat→Option Obj)→Mem→World→Prop} {Jx:(Nat→Option Obj)→World→Prop}
 (s9:∀k p m b8 dH ft cL,J k p m b8→Bw p b8 dH cL→b7 m ft→b7 ft cL.cell?→(∀aV v,ft aV=some v→aV.block<b8.heap.size→m aV=some v)→(∀aV v,ft aV=some v→dH aV.block=none)→J k dH ft cL)
 (en:∀k p m b8 x (vs:Array Value),k<M→E k=some x→J k p m b8→bV m x vs.toList→∀n,YieldAt (hL none) n P l vs b8 fun e cL=>
    b7 m cL.cell?∧(∀b o,p b=some o→cL.heap[b]? =some o)∧((e= .returned (.bool true)∧J (k+1) p m cL∧k+1<M)∨(e= .returned (.bool false)∧Jx p cL)))
include s9 en
theorem Hv (c0:ae P aP Γ) {M0:Nat} (cb:M0≤N) {K:fX→St→Prop} {Q:Exit→Act→World→Prop} (cK:∀a w,F1 N M aP J Jx K a w→Q .normal a w):
 ∀(is:List Nat) (ru:List bW),kC (fun i lo=>∃o,ops[i]? =some o∧sf P M0 ops o=some lo) is ru→(∀(i:Nat) (o:Oper),ops[i]? =some o→∀c,o.op≠ .defer c)→
 ∀(y:fX) (σ:St) (a:Act) (w:World),Wv N M aP J Jx y σ a w→h9 Γ E M l K ru y σ→wpOpsIn (hL none) n P ops Q is a w
 |[],_,h,_=>fun y σ a w au af=>by
  cases h
  exact cK _ _ ⟨_,_,af,au⟩
 |i::is,_,h,jl=>fun y σ a w aoB af=>by
  cases h with
  |cons hi ar=>
   obtain⟨o,bu,B1⟩:=hi
   obtain⟨lo,g,h1,h2,aq,rfl⟩:=Gs B1
   have aL:=Km cb aq
   obtain⟨W,pI,rd,β,R,p,au,hm,j4,EW,Ix⟩:=aoB
   simp only[h9]at af
   simp only[wpOpsIn,bu]
   split at af
   ·
    rename_i xn as hy
    obtain⟨afR,bh,aw,kH,af⟩:=af
    have amU:l=xn:=afR.symm
    subst amU
    try simp only at bh
    subst bh
    have aoC:o.guard=none:=by
     unfold G9 at h2
     split at h2
     ·rename_i aQ;exact aQ
     ·split at h2
      ·simp at h2
      ·cases h2
    have hw:Region.wanted o (yielded ops a.tmps)=true:=by simp[Region.wanted,aoC]
    rw[if_pos hw]
    try simp only at hy
    have aoD:∃x,lo= .hS x as∧σ.a3 x= .dF l:=by
     unfold EV at hy
     split at hy
     ·rename_i x S4
      split at hy
      ·rename_i asn aJ
       simp only[Option.some.injEq,Prod.mk.injEq]at hy
       obtain⟨rfl,rfl⟩:=hy
       exact⟨x,rfl,aJ⟩
      ·cases hy
     ·cases hy
    obtain⟨x,rfl,MU⟩:=aoD
    obtain⟨as4,S4,dv,bQ,aoE,has⟩:=OB h1
    have c6:=e4 au aoE
    rw[MU]at c6
    simp only[aX]at c6
    split at af
    rotate_left
    ·exact af.elim
    rename_i tW hE
    obtain⟨eN,hX,aoF⟩:=af
    obtain⟨aoG,Tk⟩:=EW aw
    obtain⟨uc,Tj⟩:=KW au j4
    have aoH:J y.k (tI σ β w) rd w:=s9 _ _ _ _ _ _ _ aoG uc au.dK au.c3 (fun aV v e aJ=>au.aP aV v e aJ) Tj
    have fQ:bV rd tW (S4.map a.eval).toList:=by
     have:=CN au kH hE (by simpa using uJ au has)
     rw[Array.toList_map]
     exact this
    obtain⟨fn,tmps,assign,body,aoI,aoJ⟩:=en _ _ _ _ _ _ Tk eN aoH fQ (n - 1)
    have hex:(execOp a.eval o).run P w= .ok (.round l fn tmps assign body) w:=by
     simp[execOp,bQ,resolve,c6,Deferred.ofValue,invoke,aoI]
    refine⟨fun _ _=>trivial,?_⟩
    rw[show (hL none).round=none from rfl,Oper.semAt_none,hex,Oper.uponIn_round]
    refine⟨fun aL=>by simp[hL,Fence.wide]at aL,aoJ.mono fun e cL he=> ?_⟩
    obtain⟨Is,afS,he⟩:=he
    have adW:b7 aP rd:=hm.trans au.dK
    have afT:∀i r,σ.keeps i=true→β i=some r→cL.heap[r.cc]? =w.heap[r.cc]? :=fun i r ie hi=>by
     obtain⟨_,arr,t,dw,_⟩:=KV au j4 hi
     have:tI σ β w r.cc=some (.cells arr t (0,0)):=by unfold tI;rw[if_pos ⟨i,r,ie,hi,rfl⟩];exact dw
     rw[afS _ _ this,dw]
    have afU:LC (xZ σ β) (tI σ β w) cL:=fun i r' hi'=>by
     obtain⟨ie,r,hi,rfl⟩:=Gz hi'
     obtain⟨z,arr,t,dw,eK⟩:=KV au j4 hi
     have:tI σ β w r.cc=some (.cells arr t (0,0)):=by unfold tI;rw[if_pos ⟨i,r,ie,hi,rfl⟩];exact dw
     exact⟨by show tI σ β w r.cc≠none;rw[this];simp,z,arr,t,afS _ _ this,eK⟩
    rcases he with ⟨rfl,aoK,BQ⟩|⟨rfl,e5⟩
    ·exact Hv c0 cb cK is _ ar jl _ _ _ _ ⟨cL,_,_,_,_,_,(XV au Is afT).put aL (by simp only[aX,bA]),adW,afU,fun _=>⟨aoK,BQ⟩,fun e=>by cases e⟩ (hX BQ)
    ·exact Hv c0 cb cK is _ ar jl _ _ _ _ ⟨cL,_,_,_,_,_,(XV au Is afT).put aL (by simp only[aX,bA]),adW,afU,(fun e=>by cases e),fun _=>e5⟩ aoF
   ·rcases Ke au h2 af with ⟨hw,af⟩|⟨hw,af⟩
    ·rw[if_pos hw]
     have Tq:=O8 (c0.mono hm) au h1 aL af (fun ct w'=>iS N W.base pI R (h9 Γ E M l K _ y) ct w') (fun _ _ _=>False) fun σ' ct w' rd' β' cn cT=>⟨σ',rd',β',cn,cT⟩
     have:=K6 (r:=none) (n:=n) (ds:=[]) (Q':=Q) (next':=wpOpsIn (hL none) n P ops Q is) (jl i o bu) (by rintro⟨_,_,h⟩;exact h) Tq (fun ct w' v ms e eU=> ?_) (fun _ _ h=>h.elim)
     ·rw[xL]at this;exact this
     ·rw[xL]
      obtain⟨σ',rd',β',cn,cT⟩:=eU
      exact Hv c0 cb cK is _ ar jl _ _ _ _ ⟨W,_,_,_,_,_,cT,hm,j4,EW,Ix⟩ cn
    ·rw[if_neg (by rw[hw];simp)]
     exact⟨fun _ _=>trivial,Hv c0 cb cK is _ ar jl _ _ _ _ ⟨W,_,_,_,_,_,au.put aL (by simp only[aX]),hm,j4,EW,Ix⟩ af⟩
theorem alw (hm:P.follows .mixedOrders=true) (c0:ae P aP Γ) {M0:Nat} (cb:M0≤N):∀(c:Code) {lc:ay} {Q:e6→fX→St→Prop} {y:fX} {σ:St} {a:Act} {w:World},ed P M0 c=some lc→
 Wv N M aP J Jx y σ a w→fI Γ E M l lc Q y σ→c.wpIn (hL none) n P (amT N M aP J Jx Q) a w:=by
 intro c
 induction c with
 |skip=>
  intro lc Q y σ a w ah h af
  simp only[ed,Option.some.injEq]at ah;subst ah
  exact wpIn_skip ⟨y,σ,af,h⟩
 |region id ops drawn=>
  intro lc Q y σ a w ah h af
  obtain⟨xn,aJ,⟨rfl,rfl⟩|⟨rfl,_,_,e⟩⟩:=OQ ah
  ·simp only[fI]at af
   exact wpIn_region (Hv s9 en c0 cb (fun _ _ h=>h) _ _ (Gn aJ) (Zz aJ) _ _ _ _ h af)
  ·have cn:cp Γ lc (fun e s=>Q e y s) σ:=by rw[e]at af⊢;exact af
   obtain⟨W,pI,rd,β,R,p,au,aw,j4,h1,h2⟩:=h
   have:=Yr (r:=none) (n:=n) (ds:=[]) (T:=fun _=>false) (av:=fun _=>undef) hm (c0.mono aw) cb ah (fun _ _=>rfl) (fun t ah=>by cases ah) au cn
   rw[xL]at this
   refine wpIn_mono this fun e ct w' he=> ?_
   obtain⟨dj,rfl,_,he⟩:=he
   rw[xL]
   cases e with
   |normal=>obtain⟨σ',rd',β',bE,bM⟩:=he;exact⟨y,σ',bE,W,pI,rd',β',R,p,bM,aw,j4,h1,h2⟩
   |exit j=>obtain⟨σ',rd',β',bE,bM⟩:=he;exact⟨y,σ',bE,W,pI,rd',β',R,p,bM,aw,j4,h1,h2⟩
   |ret=>obtain⟨σ',rd',β',bE,bM⟩:=he;exact⟨y,σ',bE,W,pI,rd',β',R,p,bM,aw,j4,h1,h2⟩
   |_=>exact he.elim
 |seq x z lq Tr=>
  intro lc Q y σ a w ah h af
  simp only[ed]at ah
  split at ah
  ·rename_i da N4 aj br
   simp only[Option.some.injEq]at ah;subst ah
   simp only[fI]at af
   refine wpIn_seq (wpIn_mono (lq aj h af) fun e ct w' he=> ?_)
   cases e with
   |normal=>obtain⟨e7,σ',bE,bM⟩:=he;exact Tr br bM bE
   |exit id=>exact he
   |ret=>exact he
   |_=>exact he.elim
  ·cases ah
 |cond MQ x z lq Tr=>
  intro lc Q y σ a w ah h af
  simp only[ed]at ah
  split at ah
  ·rename_i a3 da N4 au aj br
   simp only[Option.some.injEq]at ah;subst ah
   simp only[fI]at af
   have ar:∃rd β,aX rd β (σ.a3 a3) (a.eval MQ):=by
    obtain⟨W,pI,rd,β,R,p,di,_⟩:=h
    exact⟨rd,β,e4 di au⟩
   obtain⟨rd,β,ar⟩:=ar
   split at af
   ·rename_i t B4
    rw[B4]at ar
    simp only[aX,bA]at ar
    cases t with
    |true=>exact wpIn_cond_true ar (lq aj h (af.1 rfl))
    |false=>exact wpIn_cond_false ar (Tr br h (af.2 rfl))
   ·exact af.elim
  ·cases ah
 |block id x cM=>
  intro lc Q y σ a w ah h af
  simp only[ed]at ah
  obtain⟨da,aj,rfl⟩:=map_some ah
  simp only[fI]at af
  refine wpIn_block (wpIn_mono (cM aj h af) fun e ct w' he=> ?_)
  cases e with
  |normal=>exact he
  |exit j=>
   obtain⟨e7,σ',bE,bM⟩:=he
   simp only at bE
   unfold Exit.inBlock
   simp only
   split at bE
   ·rename_i aH;rw[if_pos aH];exact⟨e7,σ',bE,bM⟩
   ·rename_i aH;rw[if_neg aH];exact⟨e7,σ',bE,bM⟩
  |ret=>exact he
  |_=>exact he.elim
 |loop x cM=>
  intro lc Q y σ a w ah h af
  simp only[ed]at ah
  obtain⟨da,aj,rfl⟩:=map_some ah
  simp only[fI]at af
  obtain⟨I,eI,h0,hJ⟩:=af
  refine Xj (fun m a w=>F1 N M aP J Jx (fun y s=>I y s∧eI y s=m) a w) (eI y σ) ⟨y,σ,⟨h0,rfl⟩,h⟩ ?_
  rintro m a w ⟨y,s,⟨bE,rfl⟩,h⟩
  refine wpIn_mono (cM aj h (hJ y s bE)) fun e ct w' he=> ?_
  cases e with
  |normal=>
   obtain⟨e7,dM,⟨N1,ahm⟩,ara⟩:=he
   exact⟨eI e7 dM,ahm,e7,dM,⟨N1,rfl⟩,ara⟩
  |exit j=>exact he
  |ret=>exact he
  |_=>exact he.elim
 |exit id=>
  intro lc Q y σ a w ah h af
  simp only[ed,Option.some.injEq]at ah;subst ah
  exact wpIn_exit ⟨y,σ,af,h⟩
 |ret=>
  intro lc Q y σ a w ah h af
  simp only[ed,Option.some.injEq]at ah;subst ah
  exact wpIn_ret ⟨y,σ,af,h⟩
 |_=>intro lc Q y σ a w ah h af;cases ah
end
theorem akP {l:Nat} {ds:List D} {dC:Array Value} (ar:bV rd ds dC.toList) (k:Nat) (t:Nat):
 aX rd β ((vH l ds).ag t) ((#[Value.func (.yield l) #[] #[]]++dC++Array.replicate k undef).getD t undef):=by
 rw[Array.append_assoc,Array.getD_eq_getD_getElem?]
 cases t with
 |zero=>
  rw[Array.getElem?_append_left (by simp)]
  simp[vH,aX]
 |succ t=>
  rw[Array.getElem?_append_right (by simp)]
  have:=YT (β:=β) ar k t
  rw[Array.getD_eq_getD_getElem?]at this
  rw[show t+1 - (#[Value.func (.yield l) #[] #[]]:Array Value).size=t by simp]
  show aX rd β ((tV ds).ag t) _
  exact this
theorem tv (hm:P.follows .mixedOrders=true) {B:Mem} (c0:ae P B Γ) {f:Nat} {fn:Func} (fR:P.funcs[f]? =some fn) (vG:(fn.name== "runtime.NumGoroutine")=false) {lc:ay} (hf:a0 P f=some (lc,[])) {C:qG}
 (h:∀ds,C.pre ds→∀M l,DB Γ (C.seq ds) M l lc ds):afL P B f C:=by
 simp only[a0,fR]at hf
 split at hf
 ·rename_i c au
  split at hf
  ·rename_i ta sU ah gd
   simp only[Option.some.injEq,Prod.mk.injEq]at hf
   obtain⟨rfl,rfl⟩:=hf
   refine⟨⟨fn,fR,vG,by rw[au];rfl⟩,fun ds a1 w rd dC l M J Jx ad sx fQ cJ aoL s9 It en=> ?_⟩
   have af:=h ds a1 M l
   unfold DB at af
   refine(callsIn_wide (n:=0)).1 (callsIn_of_wp (F:=hL none) fR au trivial ?_ rfl)
   obtain⟨vs,zP⟩:∃vs,vs= #[Value.func (.yield l) #[] #[]]++dC:=⟨_,rfl⟩
   rw[←zP]
   have vd:bl (vs++Array.replicate (fn.ntmps - vs.size) undef).size w.base rd (fun _=>none) (vH l ds) { tmps:=vs++Array.replicate (fn.ntmps - vs.size) undef,defers:=[] } w rd (fun _=>none):= {
    size:=rfl
    defers:=rfl
    cV:=iZ.refl _ _
    dy:=fun k o af=>by cases af
    c3:=sx
    dK:=b7.refl _
    aP:=fun _ _ e _=>e
    eX:=fun i r b hi=>by cases hi
    eY:=fun t=>by rw[zP];exact akP fQ _ t
    box:=fun i r hi=>by cases hi
    eL:=fun i b aw=>by cases aw
    eR:=fun i j aD iQ _ hi=>by cases hi }
   refine wpIn_mono (alw (E:=C.seq ds) (M:=M) (l:=l) (J:=J) (Jx:=Jx) s9 en hm (c0.mono ad) (M0:=fn.ntmps) (by simp;omega) c ah ⟨w,_,_,_,_,Td,vd,b7.refl _,(fun i r hi=>by cases hi),fun _=>⟨aoL,cJ⟩,fun e=>by cases e⟩ af) ?_
   have done:∀{a:Act} {w':World} {e:e6},F1 (vs++Array.replicate (fn.ntmps - vs.size) undef).size M rd J Jx (fun y _=>(match e with| .exit _=>False|_=>True)∧(y.b=true→C.seq ds y.k=none)) a w'→
    a.defers=[]∧∃v,(results fn a.tmps).run P w'= .ok v w'∧∃fb,Ending.returned v= .returned fb∧((∃k p m,C.seq ds k=none∧J k p m w')∨∃p,Jx p w'):=by
    rintro a w' e ⟨y,σ,⟨_,hy⟩,W,pI,rd',β,R,p,di,_,j4,h1,h2⟩
    refine⟨di.defers,?_⟩
    have aJ:tA σ []=some []:=rfl
    obtain⟨us,bE,_⟩:=CF di gd aJ
    have cu:∃v,(results fn a.tmps).run P w'= .ok v w':=by
     have vn:=Gq (P:=P) (w:=w') fn.results.toList bE
     unfold results
     rw[Array.mapM_eq_mapM_toList]
     simp only[Sem.run_bind,Sem.run_map]
     exact⟨_,congrArg (fun r:Result (List Value)=>(r.andThen fun a w'=>Result.ok a.toArray w').andThen fun(a:Array Value) w'=>Sem.run P (pure (if h:a.size=1 then a[0]else Value.tuple a)) w') vn⟩
    obtain⟨v,aC⟩:=cu
    refine⟨v,aC,v,rfl,?_⟩
    ·cases aw:y.b with
     |true=>exact .inl ⟨y.k,_,rd',hy aw,s9 _ _ _ _ _ _ _ (h1 aw).1 (KW di j4).1 di.dK di.c3 (fun aV v e aJ=>di.aP aV v e aJ) (KW di j4).2⟩
     |false=>exact .inr ⟨_,It _ _ _ _ (h2 aw) (KW di j4).1⟩
   intro e a w' he
   cases e with
   |normal=>exact done (e:= .normal) he
   |ret=>exact done (e:= .ret) he
   |exit id=>obtain⟨_,_,⟨h1,_⟩,_⟩:=he;exact h1.elim
   |_=>exact he.elim
  ·cases hf
 ·cases hf
end
end RV
namespace RV
open Go
theorem Hg (F:ai→Prop) (l:Nat):cs (.dF l) F=F (.dF l):=rfl
theorem K9 (σ:St) (ws:List Nat) (t:Nat):(σ.only ws).ag t=if ws.contains t=true then .any else σ.ag t:=rfl
theorem La (σ:St) (ws:List Nat):(σ.only ws).az=σ.az:=rfl
theorem GP (i l:Nat):ai.kill i (.dF l)= .dF l:=by simp[ai.kill,ai.has]
def bJ.kD:bJ→Bool
 | .hS _ _=>false
 |_=>true
def ay.kD:ay→Bool
 | .cR ops=>ops.all fun o=>o.op.kD||o.guard.isNone
 | .seq a b=>a.kD && b.kD
 | .cond _ a b=>a.kD && b.kD
 | .block _ a=>a.kD
 | .loop a=>a.kD
 |_=>true
section
variable {Γ:Env} {E:Nat→Option (List D)} {M l:Nat} {σ:St} {y:fX}
theorem ajB {op:bJ} (h:op.kD=true):EV σ op=none:=by cases op<;>first|rfl|simp[bJ.kD]at h
theorem aaQ {o:bW} {K:St→Prop} {no:Prop} (aQ:(o.op.kD||o.guard.isNone)=true) (h:guarded σ o.guard (db Γ o.dst σ K o.op) no):EV σ o.op=none:=by
 rw[Bool.or_eq_true]at aQ
 rcases aQ with aQ|aQ
 ·exact ajB aQ
 ·rw[Option.isNone_iff_eq_none]at aQ
  rw[aQ]at h
  obtain⟨dst,op,g⟩:=o
  cases op with
  |hS x as=>
   simp only[guarded,db]at h
   unfold EV
   simp only
   split at h
   ·rename_i e;rw[e]
   ·rename_i e;rw[e]
   ·exact h.elim
  |_=>rfl
theorem AB {K:fX→St→Prop} :∀{ops:List bW} {σ:St},(ops.all fun o=>o.op.kD||o.guard.isNone)=true→eQ Γ (K y) ops σ→h9 Γ E M l K ops y σ
 |[],_,_,h=>h
 |o::r,σ,aQ,h=>by
  simp only[List.all_cons,Bool.and_eq_true]at aQ
  simp only[eQ]at h
  simp only[h9,aaQ aQ.1 h]
  exact J8 (fun k=>KP (fun s aG=>AB aQ.2 aG) k) (fun k=>AB aQ.2 k) h
theorem qJ:∀(c:ay) {Q:e6→fX→St→Prop} {y:fX} {σ:St},c.kD=true→cp Γ c (fun e s=>Q e y s) σ→fI Γ E M l c Q y σ
 | .skip,_,_,_,_,h=>h
 | .cR ops,Q,y,σ,aQ,h=>AB aQ h
 | .kd pre w2,_,_,_,_,h=>h
 | .seq a b,Q,y,σ,aQ,h=>by
   simp only[ay.kD,Bool.and_eq_true]at aQ
   simp only[cp]at h
   simp only[fI]
   refine qJ a aQ.1 (j7 a (fun e s aG=> ?_) h)
   cases e with
   |normal=>exact qJ b aQ.2 aG
   |exit j=>exact aG
   |ret=>exact aG
 | .cond c a b,Q,y,σ,aQ,h=>by
   simp only[ay.kD,Bool.and_eq_true]at aQ
   simp only[cp]at h
   simp only[fI]
   split at h
   ·rename_i e
    rw[e]
    exact⟨fun e=>qJ a aQ.1 (h.1 e),fun e=>qJ b aQ.2 (h.2 e)⟩
   ·exact h.elim
 | .block id a,Q,y,σ,aQ,h=>by
   simp only[cp]at h
   simp only[fI]
   refine qJ a aQ (j7 a (fun e s aG=> ?_) h)
   cases e<;>exact aG
 | .loop a,Q,y,σ,aQ,h=>by
   simp only[cp,A5]at h
   simp only[fI]
   obtain⟨I,eI,h0,hJ⟩:=h
   refine⟨fun z s=>z=y∧I s,fun _ s=>eI s,⟨rfl,h0⟩,?_⟩
   rintro z s ⟨rfl,aG⟩
   refine qJ a aQ (j7 a (fun e dM kJ=> ?_) (hJ s aG))
   cases e with
   |normal=>exact⟨⟨rfl,kJ.1⟩,kJ.2⟩
   |exit j=>exact kJ
   |ret=>exact kJ
 | .exit id,_,_,_,_,h=>h
 | .ret,_,_,_,_,h=>h
theorem akf {dst:Option Nat} {K fa:fX→St→Prop} (cj:∀y s,K y s→fa y s) {vs:List ai} (h:Iw E M dst y σ K vs):Iw E M dst y σ fa vs:=by
 unfold Iw at*
 obtain⟨h1,h2,aq⟩:=h
 refine⟨h1,h2,?_⟩
 split at aq
 ·exact⟨aq.1,fun e=>cj _ _ (aq.2.1 e),cj _ _ aq.2.2⟩
 ·exact aq.elim
theorem Ks {K fa:fX→St→Prop} (cj:∀y s,K y s→fa y s):∀{ops:List bW} {y:fX} {σ:St},h9 Γ E M l K ops y σ→h9 Γ E M l fa ops y σ
 |[],_,_,h=>cj _ _ h
 |o::r,y,σ,h=>by
  simp only[h9]at*
  split at h
  ·exact⟨h.1,h.2.1,akf (fun y s aG=>Ks cj aG) h.2.2⟩
  ·exact J8 (fun k=>KP (fun s aG=>Ks cj aG) k) (fun k=>Ks cj k) h
theorem yX:∀(c:ay) {Q Q':e6→fX→St→Prop} {y:fX} {σ:St},(∀e y s,Q e y s→Q' e y s)→fI Γ E M l c Q y σ→fI Γ E M l c Q' y σ
 | .skip,_,_,_,_,a7,h=>a7 _ _ _ h
 | .cR ops,_,_,_,_,a7,h=>Ks (fun y s aG=>a7 _ _ _ aG) h
 | .kd pre w2,_,_,_,_,a7,h=>AJ (fun s aG=>AH (fun s aG=>a7 _ _ _ aG) aG) h
 | .seq a b,_,_,_,_,a7,h=>by
   simp only[fI]at*
   refine yX a (fun e y s aG=> ?_) h
   cases e with
   |normal=>exact yX b a7 aG
   |exit j=>exact a7 _ _ _ aG
   |ret=>exact a7 _ _ _ aG
 | .cond c a b,_,_,_,_,a7,h=>by
   simp only[fI]at*
   split at h
   ·exact⟨fun e=>yX a a7 (h.1 e),fun e=>yX b a7 (h.2 e)⟩
   ·exact h.elim
 | .block id a,_,_,_,_,a7,h=>by
   simp only[fI]at*
   refine yX a (fun e y s aG=> ?_) h
   cases e with
   |normal=>exact a7 _ _ _ aG
   |exit j=>simp only at aG⊢;split at aG<;>rename_i aH<;>simp only[aH,if_true,if_false]<;>exact a7 _ _ _ aG
   |ret=>exact a7 _ _ _ aG
 | .loop a,_,_,_,_,a7,h=>by
   simp only[fI]at*
   obtain⟨I,eI,h0,hJ⟩:=h
   refine⟨I,eI,h0,fun z s aG=>yX a (fun e g5 dM kJ=> ?_) (hJ z s aG)⟩
   cases e with
   |normal=>exact kJ
   |exit j=>exact a7 _ _ _ kJ
   |ret=>exact a7 _ _ _ kJ
 | .exit id,_,_,_,_,a7,h=>a7 _ _ _ h
 | .ret,_,_,_,_,a7,h=>a7 _ _ _ h
theorem CZ {a b:ay} {Q:e6→fX→St→Prop} (K:fX→St→Prop) (a9:fI Γ E M l a (fun e y s=>match e with| .normal=>K y s|e=>Q e y s) y σ) (aw:∀y s,K y s→fI Γ E M l b Q y s):fI Γ E M l (.seq a b) Q y σ:=by
 simp only[fI]
 refine yX a (fun e y s aG=> ?_) a9
 cases e with
 |normal=>exact aw _ _ aG
 |exit j=>exact aG
 |ret=>exact aG
theorem tm {a b:ay} {Q:e6→fX→St→Prop} (K:St→Prop) (aQ:a.kD=true) (a9:cp Γ a (fun e s=>match e with| .normal=>K s|e=>Q e y s) σ) (aw:∀s,K s→fI Γ E M l b Q y s):fI Γ E M l (.seq a b) Q y σ:=by
 refine CZ (fun z s=>z=y∧K s) (qJ a aQ (j7 a (fun e s aG=> ?_) a9)) ?_
 ·cases e with
  |normal=>exact⟨rfl,aG⟩
  |exit j=>exact aG
  |ret=>exact aG
 ·rintro z s ⟨rfl,aG⟩
  exact aw s aG
theorem GG {id:Nat} {a:ay} {Q:e6→fX→St→Prop} (h:fI Γ E M l a (fun e y s=>match e with| .exit j=>if j=id then Q .normal y s else Q (.exit j) y s|e=>Q e y s) y σ):fI Γ E M l (.block id a) Q y σ:=h
theorem OT {a:ay} {Q:e6→fX→St→Prop} (I:fX→St→Prop) (eI:fX→St→Nat) (h0:I y σ)
 (hJ:∀z s,I z s→fI Γ E M l a (fun e g5 dM=>match e with| .normal=>I g5 dM∧eI g5 dM<eI z s|e=>Q e g5 dM) z s):fI Γ E M l (.loop a) Q y σ:=by
 simp only[fI]
 refine⟨I,eI,h0,fun z s aG=>yX a (fun e g5 dM kJ=> ?_) (hJ z s aG)⟩
 cases e<;>exact kJ
theorem Yt {K:fX→St→Prop} (n:Nat) (R:St→Prop):∀{ops:List bW} {σ:St},((ops.take n).all fun o=>o.op.kD||o.guard.isNone)=true→eQ Γ R (ops.take n) σ→(∀s,R s→h9 Γ E M l K (ops.drop n) y s)→h9 Γ E M l K ops y σ:=by
 intro ops σ aQ h aw
 have key:∀(as F2:List bW) (σ:St),(as.all fun o=>o.op.kD||o.guard.isNone)=true→eQ Γ R as σ→(∀s,R s→h9 Γ E M l K F2 y s)→h9 Γ E M l K (as++F2) y σ:=by
  intro as F2
  induction as with
  |nil=>intro σ _ h aw;exact aw _ h
  |cons o r cM=>
   intro σ aQ h aw
   simp only[List.all_cons,Bool.and_eq_true]at aQ
   simp only[eQ]at h
   simp only[List.cons_append,h9,aaQ aQ.1 h]
   exact J8 (fun k=>KP (fun s aG=>cM s aQ.2 aG aw) k) (fun k=>cM _ aQ.2 k aw) h
 have:=key (ops.take n) (ops.drop n) σ aQ h aw
 rwa [List.take_append_drop]at this
theorem Xx {K:fX→St→Prop} {dst:Option Nat} {x:bB} {as:List bB} {r:List bW} {ds:List D} (aj:σ.a3 x= .dF l) (a1:ai.hl (cG σ as)=true) (aL:toDs σ (cG σ as)=some ds) (aw:y.b=true) (eN:E y.k=some ds)
 (h1:y.k+1<M→h9 Γ E M l K r ⟨y.k+1,true⟩ (σ.still.put dst (.d (.bool true)))) (h2:h9 Γ E M l K r ⟨y.k,false⟩ (σ.still.put dst (.d (.bool false)))):h9 Γ E M l K (⟨dst,.hS x as,none⟩::r) y σ:=by
 simp only[h9,EV,aj,Iw,aL]
 exact⟨trivial,trivial,aw,a1,eN,h1,h2⟩
theorem y0 {t:Nat} {d:D} (h:σ.ag t= .d d):σ.still.ag t= .d d:=by simp[St.still,h,ai.ids]
theorem Yu {t n:Nat} (h:σ.ag t= .dF n):σ.still.ag t= .dF n:=by simp[St.still,h,ai.ids]
theorem XW {i:Nat} {e:Bool} {c:BC} (aw:σ.az i=some ⟨false,e,c⟩) (au:c.pure=true):σ.keeps i=true:=by simp[St.keeps,aw,au]
theorem Yv {t i o:Nat} {e:Bool} {c:BC} (h:σ.ag t= .box i o) (aw:σ.az i=some ⟨false,e,c⟩) (au:c.pure=true):σ.still.ag t= .box i o:=by simp[St.still,h,ai.ids,XW aw au]
theorem ZB {i:Nat} {e:Bool} {c:BC} (aw:σ.az i=some ⟨false,e,c⟩) (au:c.pure=true):σ.still.az i=some ⟨false,true,c⟩:=by simp[St.still,XW aw au,aw]
end
end RV
namespace RV
open Go Go.RowKit
inductive oQ where
 |c (a:ay)
 |seq (a b:oQ)
 |cond (c:bB) (a b:oQ)
 |goto
def tw (P:Program) (N:Nat):Code→Option oQ
 | .goto 0=>some .goto
 | .label _=>some (.c .skip)
 | .seq a b=>match ed P N (.seq a b)with
   |some l=>some (.c l)
   |none=>match tw P N a,tw P N b with
    |some x,some y=>some (.seq x y)
    |_,_=>none
 | .cond c a b=>match ed P N (.cond c a b)with
   |some l=>some (.c l)
   |none=>match eh P c,tw P N a,tw P N b with
    |some c,some x,some y=>some (.cond c x y)
    |_,_,_=>none
 |c=>(ed P N c).map .c
def C0 (P:Program) (f:Nat):Option (ay×oQ×oQ×List bx):=
 match P.funcs[f]? with
 |some fn=>match fn.body with
  |some (.seq p (.scope c))=>match findLabel c 0 with
   |some r=>match ed P fn.ntmps p,tw P fn.ntmps c,tw P fn.ntmps r,yY P fn.results.toList with
    |some p,some x,some y,some rs=>some (p,x,y,rs)
    |_,_,_,_=>none
   |none=>none
  |_=>none
 |none=>none
def lv (Γ:Env):oQ→(St→Prop)→(St→Prop)→(St→Prop)→St→Prop
 | .c l,iT,iG,_,σ=>cp Γ l (fun e s=>match e with| .normal=>iT s| .ret=>iG s| .exit _=>False) σ
 | .seq a b,iT,iG,iH,σ=>lv Γ a (fun s=>lv Γ b iT iG iH s) iG iH σ
 | .cond c a b,iT,iG,iH,σ=>match σ.a3 c with
   | .d (.bool t)=>(t=true→lv Γ a iT iG iH σ)∧(t=false→lv Γ b iT iG iH σ)
   |_=>False
 | .goto,_,_,iH,σ=>iH σ
def LV (Γ:Env) (p:ay) (a b:oQ) (rs:List bx) (args:List D) (K:D→Prop):Prop:=
 cp Γ p (fun e tb=>match e with
  | .normal=>∃(J:St→Prop) (eI:St→Nat),lv Γ a (fun s=>kA rs s K) (fun s=>kA rs s K) J tb∧∀s,J s→lv Γ b (fun s=>kA rs s K) (fun s=>kA rs s K) (fun dM=>J dM∧eI dM<eI s) s
  |_=>False) (tV args)
section
variable {N:Nat} {aU:eW} {aP:Mem} {R:bU} {σ σ':St} {a:Act} {w w':World} {rd rd':Mem} {β β':bU} {P:Program} {Γ:Env}
def adX (N:Nat) (aU:eW) (aP:Mem) (R:bU) (iT iG iH:St→Prop):Exit→Act→World→Prop
 | .normal,a,w=>iS N aU aP R iT a w
 | .ret,a,w=>iS N aU aP R iG a w
 | .goto l,a,w=>l=0∧iS N aU aP R iH a w
 |_,_,_=>False
theorem Xy (hm:P.follows .mixedOrders=true) (c0:ae P aP Γ) {M:Nat} (cb:M≤N):∀(c:Code) {Cw:oQ} {iT iG iH:St→Prop} {σ:St} {a:Act} {w:World} {rd:Mem} {β:bU},tw P M c=some Cw→
 bl N aU aP R σ a w rd β→lv Γ Cw iT iG iH σ→c.wp P (adX N aU aP R iT iG iH) a w:=by
 intro c
 have plain:∀{c:Code} {l:ay} {iT iG iH:St→Prop} {σ:St} {a:Act} {w:World} {rd:Mem} {β:bU},ed P M c=some l→bl N aU aP R σ a w rd β→lv Γ (.c l) iT iG iH σ→c.wp P (adX N aU aP R iT iG iH) a w:=by
  intro c l iT iG iH σ a w rd β ah h af
  refine wp_mono (Gy hm c0 cb c ah h af) fun e ct w' he=> ?_
  cases e with
  |normal=>exact he
  |ret=>exact he
  |exit id=>obtain⟨_,_,_,h1,_⟩:=he;exact h1.elim
  |_=>exact he.elim
 induction c with
 |seq x y lq sT=>
  intro Cw iT iG iH σ a w rd β ah h af
  simp only[tw]at ah
  split at ah
  ·rename_i l aJ
   simp only[Option.some.injEq]at ah;subst ah
   exact plain aJ h af
  ·split at ah
   ·rename_i da hK aj hy
    simp only[Option.some.injEq]at ah;subst ah
    simp only[lv]at af
    refine wp_seq (wp_mono (lq aj h af) fun e ct w' he=> ?_)
    cases e with
    |normal=>obtain⟨σ',rd',β',h1,h2⟩:=he;exact sT hy h2 h1
    |ret=>exact he
    |goto l=>exact he
    |_=>exact he.elim
   ·cases ah
 |cond MQ x y lq sT=>
  intro Cw iT iG iH σ a w rd β ah h af
  simp only[tw]at ah
  split at ah
  ·rename_i l aJ
   simp only[Option.some.injEq]at ah;subst ah
   exact plain aJ h af
  ·split at ah
   ·rename_i a3 da hK au aj hy
    simp only[Option.some.injEq]at ah;subst ah
    simp only[lv]at af
    have ar:=e4 h au
    split at af
    ·rename_i t B4
     rw[B4]at ar
     simp only[aX,bA]at ar
     cases t with
     |true=>exact wp_cond_true ar (lq aj h (af.1 rfl))
     |false=>exact wp_cond_false ar (sT hy h (af.2 rfl))
    ·exact af.elim
   ·cases ah
 |goto l=>
  intro Cw iT iG iH σ a w rd β ah h af
  unfold tw at ah
  split at ah
  ·rename_i e
   simp only[Code.goto.injEq]at e
   simp only[Option.some.injEq]at ah;subst ah
   exact wp_goto ⟨e,σ,rd,β,af,h⟩
  all_goals first
   |(rename_i e;cases e;done)
   |(obtain⟨_,q,_⟩:=map_some ah;cases q;done)
 |label l=>
  intro Cw iT iG iH σ a w rd β ah h af
  simp only[tw,Option.some.injEq]at ah;subst ah
  exact wp_label ⟨σ,rd,β,af,h⟩
 |_=>
  intro Cw iT iG iH σ a w rd β ah h af
  simp only[tw]at ah
  obtain⟨l,aJ,rfl⟩:=map_some ah
  exact plain aJ h af
theorem aiq {c rest:Code} {Q:Exit→Act→World→Prop} (l:Nat) (J:Nat→Act→World→Prop) (hf:findLabel c l=some rest)
 (first:c.wp P (Exit.jump l (fun a w=>∃n,J n a w) Q) a w)
 (pass:∀n a w,J n a w→rest.wp P (Exit.jump l (fun ct w'=>∃m,m<n∧J m ct w') Q) a w):(Code.scope c).wp P Q a w:=by
 intro b k cs
 have bh:gotoIn l (.inScope c::k)=some (.code rest:: .inScope c::k):=by simp[gotoIn,hf]
 have key:∀n a w,J n a w→∃e ct w',Q e ct w'∧Arrives P (lone (b.at a (.code rest:: .inScope c::k)) cs w) b k cs e ct w':=by
  intro n
  induction n using Nat.strongRecOn with
  |_ n cM=>
   intro a w s9
   obtain⟨e,hz,hB,a7,fV⟩:=pass n a w s9 b (.inScope c::k) cs
   cases e with
   |normal=>exact⟨.normal,hz,hB,a7,Steps.trans fV (.one step_inScope)⟩
   |exit id=>exact⟨.exit id,hz,hB,a7,fun eH af=>fV eH (by simp[exitTo,af])⟩
   |goto xn=>
    obtain⟨rfl,m,bw,Ts⟩:=a7
    obtain⟨Bt,Bu,Bv,Bd,A1⟩:=cM m bw hz hB Ts
    exact⟨Bt,Bu,Bv,Bd,.of_steps (fV _ bh) A1⟩
   |ret=>exact⟨_,hz,hB,a7,fV⟩
   |panic yC=>exact⟨_,hz,hB,a7,fV⟩
   |outgrown=>exact⟨_,hz,hB,a7,fV⟩
 obtain⟨e,hz,hB,a7,fV⟩:=first b (.inScope c::k) cs
 cases e with
 |normal=>exact⟨.normal,hz,hB,a7,.head step_scope (Steps.trans fV (.one step_inScope))⟩
 |exit id=>exact⟨.exit id,hz,hB,a7,fun eH af=> .head step_scope (fV eH (by simp[exitTo,af]))⟩
 |goto xn=>
  obtain⟨rfl,m,Ts⟩:=a7
  obtain⟨Bt,Bu,Bv,Bd,A1⟩:=key m hz hB Ts
  exact⟨Bt,Bu,Bv,Bd,.of_steps (.head step_scope (fV _ bh)) A1⟩
 |ret=>exact⟨_,hz,hB,a7,.of_steps (.one step_scope) fV⟩
 |panic yC=>exact⟨_,hz,hB,a7,.of_steps (.one step_scope) fV⟩
 |outgrown=>exact⟨_,hz,hB,a7,.of_steps (.one step_scope) fV⟩
theorem C8 (hm:P.follows .mixedOrders=true) {B:Mem} (c0:ae P B Γ) {f:Nat} {fn:Func} (fR:P.funcs[f]? =some fn) (vG:(fn.name== "runtime.NumGoroutine")=false) {ahs:ay} {cI dC:oQ} {rs:List bx} (hf:C0 P f=some (ahs,cI,dC,rs)) {C:bC}
 (h:∀ds,C.pre ds→LV Γ ahs cI dC rs ds fun d=>d=C.res ds) (bu:C.own=false:=by rfl):ld P B f C:=by
 simp only[C0,fR]at hf
 split at hf
 ·rename_i c au
  split at hf
  ·rename_i r ar
   split at hf
   ·rename_i uD x y sU fF aj hy gd
    simp only[Option.some.injEq,Prod.mk.injEq]at hf
    obtain⟨rfl,rfl,rfl,rfl⟩:=hf
    refine⟨⟨fn,fR,vG,by rw[au];rfl⟩,fun ds a1 w rd vs ad sx fQ=> ?_⟩
    have h0:=h ds a1
    unfold LV at h0
    refine calls_of_wp fR au ?_
    have vd:=KC (N:=(vs++Array.replicate (fn.ntmps - vs.size) undef).size) sx fQ (fn.ntmps - vs.size) rfl
    have cb:fn.ntmps≤(vs++Array.replicate (fn.ntmps - vs.size) undef).size:=by simp;omega
    refine wp_seq (wp_mono (Gy hm (c0.mono ad) cb _ fF vd h0) fun e dj aU he=> ?_)
    cases e with
    |normal=>
     obtain⟨tb,aP,aso,⟨J,eI,h1,h2⟩,dL⟩:=he
     refine aiq 0 (fun n a w'=>iS (vs++Array.replicate (fn.ntmps - vs.size) undef).size w.base rd (fun _=>none) (fun s=>J s∧eI s=n) a w') ar ?_ ?_
     ·refine wp_mono (Xy hm (c0.mono ad) cb c aj dL h1) fun e a w' he=> ?_
      cases e with
      |normal=>exact He gd bu he
      |ret=>exact He gd bu he
      |goto l=>obtain⟨rfl,s,rd',β',bE,bM⟩:=he;exact⟨rfl,eI s,s,rd',β',⟨bE,rfl⟩,bM⟩
      |_=>exact he.elim
     ·rintro n a b8 ⟨s,rd',β',⟨bE,rfl⟩,bM⟩
      refine wp_mono (Xy hm (c0.mono ad) cb r hy bM (h2 s bE)) fun e a w' he=> ?_
      cases e with
      |normal=>exact He gd bu he
      |ret=>exact He gd bu he
      |goto l=>obtain⟨rfl,dM,amV,amW,⟨bn,h5⟩,oM⟩:=he;exact⟨rfl,eI dM,h5,dM,amV,amW,⟨bn,rfl⟩,oM⟩
      |_=>exact he.elim
    |ret=>obtain⟨_,_,_,q,_⟩:=he;exact q.elim
    |exit id=>obtain⟨_,_,_,q,_⟩:=he;exact q.elim
    |_=>exact he.elim
   ·cases hf
  ·cases hf
 ·cases hf
end
end RV
namespace RV
open Go
def ay.C1:ay→Bool
 | .loop _=>true
 | .seq a b=>a.C1||b.C1
 | .cond _ a b=>a.C1||b.C1
 | .block _ a=>a.C1
 |_=>false
def ay.ap (c:ay→ay→ay) (a b:ay):ay:=c a b
def ay.dE (c:ay→ay→ay):ay→ay
 | .seq a b=>if a.C1=true then ay.ap c (a.dE c) (b.dE c)else .seq (a.dE c) (b.dE c)
 | .cond x a b=> .cond x (a.dE c) (b.dE c)
 | .block i a=> .block i (a.dE c)
 | .loop a=> .loop (a.dE c)
 |l=>l
def oO.dE (c:ay→ay→ay):oO→oO
 | .c l=> .c (l.dE c)
 | .seq a b=> .seq (a.dE c) (b.dE c)
 | .block i a=> .block i (a.dE c)
 | .EU g p w a b=> .EU g p w (a.dE c) (b.dE c)
 |l=>l
def oQ.dE (c:ay→ay→ay):oQ→oQ
 | .c l=> .c (l.dE c)
 | .seq a b=> .seq (a.dE c) (b.dE c)
 | .cond x a b=> .cond x (a.dE c) (b.dE c)
 | .goto=> .goto
end RV
