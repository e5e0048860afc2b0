/- Lemmas for a claim: an abstract machine for the translated code, proved sound, and contracts of functions. By an AI agent. -/
import Derived.Test.YtmdjhngbigfblaaGreatDoorRf
import Derived.Test.YtmdjhngbigfblaaGreatDoorChecked
import Derived.WalkKit
import Derived.ProofKit
import Derived.Test.YtmdjhngbigfblaaGreatDoorRc
set_option linter.all false
namespace RV.Dr
open Go RV
set_option linter.unusedSimpArgs false
set_option linter.unusedVariables false
set_option maxRecDepth 100000
set_option maxHeartbeats 4000000
def q2:bC where
 pre:=fun ds=>∃a:Nat,ds=[aZ a]∧(ao a).length≤20000
 res:=fun ds=>match ds with
  |[.ints _ xs]=>aZ (a5 (val xs))
  |_=> .nilp
theorem D9 (Γ:Env) (f117:Γ.fn 117=some jV) (wT:Γ.mt 117=none) (f99:Γ.fn 99=some jG) (B8:Γ.mt 99=none) (ad8:Γ.mt 129=some sC) (ad9:Γ.mt 130=some q1)
 (ds:List D) (h:q2.pre ds):bT Γ Rm Rn ds fun d=>d=q2.res ds:=by
 obtain⟨a,rfl,hlen⟩:=h
 obtain⟨n,aQ⟩:∃n:Nat,n=(ao a).length / 2+2:=⟨_,rfl⟩
 have d1:((ao a).length:Int).tdiv 2+2=(n:Int):=by
  rw[Int.tdiv_eq_ediv_of_nonneg (by omega)];omega
 have Vp:((ao a).length:Int).tdiv 2=((ao a).length:Int) / 2:=Int.tdiv_eq_ediv_of_nonneg (by omega)
 have aw:=Ay a
 have ar0:a5 a<16777216^(n - 1):=by
  refine ab8 ?_
  rw[←Nat.pow_add]
  exact Nat.lt_of_lt_of_le (Pw a) (Nat.pow_le_pow_right (by decide) (by omega))
 have asa:16777216^n=16777216*16777216^(n - 1):=by
  rw[←Nat.pow_succ',show (n - 1).succ=n by omega]
 obtain⟨t0,ast⟩:∃t:Nat,t=(bp a+1) / 2:=⟨_,rfl⟩
 have d2:((bp a:Int)+1).tdiv 2=(t0:Int):=by rw[Int.tdiv_eq_ediv_of_nonneg (by omega)];omega
 simp (maxSteps:=2000000) only[↓al,ak,↓reduceIte,reduceCtorEq,Nat.reduceEqDiff,Nat.reduceLeDiff,Nat.reduceSub,Nat.reduceAdd,Int.reduceToNat,Nat.reducePow,Int.reducePow,Int.reduceLE,Int.reduceLT,IntKind.bits,b0,Nat.reduceBneDiff,Nat.reduceBeqDiff,Nat.reduceLT,List.flatMap_cons,List.flatMap_nil,List.append_nil,List.nil_append,List.cons_append,List.filter_cons,List.filter_nil,List.contains_cons,List.contains_nil,bne_self_eq_false,beq_self_eq_true,List.map_cons,List.map_nil,Rm,Rn,q2,d1,b5,f99,B8,jG,d2]
 rw[Vp]
 repeat (refine And.intro (by first|omega|(simp only[aO];omega)|(simp only[aO]at*;omega)|(simp only[List.length_append,List.length_cons,List.length_nil,List.length_set,b4];omega)) ?_)
 refine bZ (fun s=>s.ag 5= .own 16 0 n∧s.az 16=some ⟨false,false,.ints .i64 (fx n (a5 a))⟩) ?_ ?_
 ·simp (maxSteps:=2000000) only[↓al,ak,↓reduceIte,reduceCtorEq,Nat.reduceEqDiff,Nat.reduceLeDiff,Nat.reduceSub,Nat.reduceAdd,Int.reduceToNat,Nat.reducePow,Int.reducePow,Int.reduceLE,Int.reduceLT,IntKind.bits,b0,Nat.reduceBneDiff,Nat.reduceBeqDiff,Nat.reduceLT,List.flatMap_cons,List.flatMap_nil,List.append_nil,List.nil_append,List.cons_append,List.filter_cons,List.filter_nil,List.contains_cons,List.contains_nil,bne_self_eq_false,beq_self_eq_true,List.map_cons,List.map_nil,f99,B8,jG,d2,b5]
  refine⟨⟨a,rfl,by omega⟩,?_⟩
  repeat (refine And.intro (by first|omega|(simp only[aO];omega)|(simp only[aO]at*;omega)|(simp only[List.length_append,List.length_cons,List.length_nil,List.length_set,b4];omega)) ?_)
  refine fp (fun s=>∃(t:Nat) (aK:List Int),s.ag 0= .d (.ints .i64 (ao a))∧s.ag 4= .own 14 0 n∧s.ag 5= .own 16 0 n∧s.ag 6= .own 18 0 n∧s.ag 7= .d (.int .i64 (2*t - 2))∧
   s.az 14=some ⟨false,false,.ints .i64 (fx n (a / 4^t - a5 (a / 4^t)*a5 (a / 4^t)))⟩∧s.az 16=some ⟨false,false,.ints .i64 (fx n (a5 (a / 4^t)))⟩∧s.az 18=some ⟨false,false,.ints .i64 aK⟩∧aK.length=n∧ca aK∧t≤t0)
   (fun s=>match s.ag 7 with| .d (.int _ i)=>(i+2).toNat|_=>0) ?_ ?_
  ·refine⟨t0,List.replicate n 0,?_⟩
   have h0:a / 4^t0=0:=Nat.div_eq_of_lt (by
    have:=k4 a
    refine Nat.lt_of_lt_of_le this ?_
    rw[show (4:Nat)=2^2 from rfl,←Nat.pow_mul]
    exact Nat.pow_le_pow_right (by decide) (by omega))
   rw[h0,KY,Nat.zero_sub,ajE]
   simp (maxSteps:=2000000) only[↓al,ak,↓reduceIte,reduceCtorEq,Nat.reduceEqDiff,Nat.reduceLeDiff,Nat.reduceSub,Nat.reduceAdd,Int.reduceToNat,Nat.reducePow,Int.reducePow,Int.reduceLE,Int.reduceLT,IntKind.bits,b0,Nat.reduceBneDiff,Nat.reduceBeqDiff,Nat.reduceLT,List.flatMap_cons,List.flatMap_nil,List.append_nil,List.nil_append,List.cons_append,List.filter_cons,List.filter_nil,List.contains_cons,List.contains_nil,bne_self_eq_false,beq_self_eq_true,List.map_cons,List.map_nil,Int.toNat_natCast,List.length_replicate]
   (repeat' apply And.intro)<;>first|with_reducible rfl|omega|(simp only[List.length_append,List.length_cons,List.length_nil,List.length_set,List.length_replicate];omega)|(simp only[aO];omega)|(simp only[List.length_set];done)|(rw[Int.toNat_of_nonneg (by omega)];done)|exact(fun x aj=>by rw[List.eq_of_mem_replicate aj];decide)|exact(by congr 3;omega)
  ·rintro s ⟨t,aK,h0,aE,aF,aN,aM,Jb,jq,Vq,yc,asu,ah⟩
   by_cases pW:(2*(t:Int) - 2)≥0
   ·obtain⟨u,rfl⟩:∃u,t=u+1:=⟨t - 1,by omega⟩
    have cm:2*((u+1:Nat):Int) - 2=((2*u:Nat):Int):=by omega
    rw[cm]at aM pW
    obtain⟨d,aL⟩:∃d,d=a / 4^u % 4:=⟨_,rfl⟩
    obtain⟨N,cb⟩:∃N,N=a / 4^(u+1):=⟨_,rfl⟩
    have LD:a / 4^u=4*N+d:=by rw[cb,aL];exact ajF a u
    have Vr:d<4:=by omega
    obtain⟨cC,c9,fM⟩:=akh N d Vr
    have qT:=akj N
    have aoV:a5 N≤a5 a:=by
     have:N≤a:=by rw[cb];exact Nat.div_le_self _ _
     rcases Nat.lt_or_ge (a5 a) (a5 N)with bw|BV
     ·exfalso
      have bE:=(pf N).1
      have bM:=(pf a).2
      have:=Nat.mul_le_mul (show a5 a+1≤a5 N from bw) (show a5 a+1≤a5 N from bw)
      omega
     ·exact BV
    rw[←cb]at Jb jq
    obtain⟨L,dO⟩:∃L,L=N - a5 N*a5 N:=⟨_,rfl⟩
    rw[←dO]at Jb cC c9 fM qT
    obtain⟨R,en⟩:∃R,R=a5 N:=⟨_,rfl⟩
    rw[←en]at jq cC c9 aoV qT
    have v1:val (fx n L)=L:=CS (by omega)
    have v2:val (fx n R)=R:=CS (by omega)
    have CA:val (fx n (L*4+d))=L*4+d:=CS (by omega)
    have v4:val (fx n (R*4+1))=R*4+1:=CS (by omega)
    have f1:2*u / 24<(ao a).length:=by omega
    have f2:((2*u:Nat):Int).tdiv 24=((2*u / 24:Nat):Int):=rfl
    have f3:((2*u:Nat):Int).tmod 24=((2*u % 24:Nat):Int):=rfl
    have f4:2*u % 24≤64:=by omega
    have f5:lb .i64 (((ao a).getD (2*u / 24) 0).fdiv (2^(2*u % 24))) 3=(d:Int):=by
     rw[ai6,OV,show (2:Int)^(2*u % 24)=((2^(2*u % 24):Nat):Int)by rw[Int.natCast_pow];rfl,Int.fdiv_eq_ediv_of_nonneg _ (Int.natCast_nonneg _),aL,←aki]
     rfl
    have f6:((2*u / 24:Nat):Int)<(ao a).length:=by omega
    have f7:(fx n R).take n=fx n R:=List.take_of_length_le (by rw[fu];omega)
    have f8:aK.drop n=[]:=List.drop_of_length_le (by omega)
    by_cases JJ:R*4+1≤L*4+d
    ·simp (maxSteps:=2000000) only[↓al,ak,↓reduceIte,reduceCtorEq,Nat.reduceEqDiff,Nat.reduceLeDiff,Nat.reduceSub,Nat.reduceAdd,Int.reduceToNat,Nat.reducePow,Int.reducePow,Int.reduceLE,Int.reduceLT,IntKind.bits,b0,Nat.reduceBneDiff,Nat.reduceBeqDiff,Nat.reduceLT,List.flatMap_cons,List.flatMap_nil,List.append_nil,List.nil_append,List.cons_append,List.filter_cons,List.filter_nil,List.contains_cons,List.contains_nil,bne_self_eq_false,beq_self_eq_true,List.map_cons,List.map_nil,h0,aE,aF,aN,aM,Jb,jq,Vq,pW,f1,f2,f3,f4,f5,f6,Int.toNat_natCast,ad8,sC,ad9,q1,fu,v1,v2,CA,v4,JJ,yc,f7,f8,List.take_zero,List.nil_append,List.append_nil]
     have sR:=cC.1 (by omega)
     rw[if_pos (by omega)]at fM
     rw[sR]at fM
     have Qq:a5 (a / 4^u)=R*2+1:=by rw[LD,sR];omega
     have QK:a / 4^u - a5 (a / 4^u)*a5 (a / 4^u)=L*4+d - (R*4+1):=by rw[LD,sR,fM];omega
     repeat (refine And.intro (by first|omega|(simp only[aO];omega)|(simp only[aO]at*;omega)|(simp only[List.length_append,List.length_cons,List.length_nil,List.length_set,b4];omega)) ?_)
     refine⟨⟨fx n L,2,d,by rw[fu];rfl,rfl,qK _ _,by rw[fu];omega,by omega,by omega,by rw[v1,fu];omega⟩,
      ⟨fx n R,2,1,by rw[fu];rfl,rfl,qK _ _,by rw[fu];omega,by omega,by omega,by rw[v2,fu];omega⟩,
      ⟨fx n (L*4+d),fx n (R*4+1),by rw[fu,fu],rfl,qK _ _,qK _ _,by rw[fu];omega,by rw[fu,fu]⟩,
      ⟨fx n R,1,1,by rw[fu];rfl,rfl,qK _ _,by rw[fu];omega,by omega,by omega,by rw[v2,fu];omega⟩,?_⟩
     repeat (refine And.intro (by first|omega|(simp only[aO];omega)|(simp only[aO]at*;omega)|(simp only[List.length_append,List.length_cons,List.length_nil,List.length_set,b4];omega)) ?_)
     refine⟨⟨u,fx n (R*4+1),by omega,by rw[QK],by rw[Qq],rfl,fu _ _,qK _ _,by omega⟩,by omega⟩
    ·simp (maxSteps:=2000000) only[↓al,ak,↓reduceIte,reduceCtorEq,Nat.reduceEqDiff,Nat.reduceLeDiff,Nat.reduceSub,Nat.reduceAdd,Int.reduceToNat,Nat.reducePow,Int.reducePow,Int.reduceLE,Int.reduceLT,IntKind.bits,b0,Nat.reduceBneDiff,Nat.reduceBeqDiff,Nat.reduceLT,List.flatMap_cons,List.flatMap_nil,List.append_nil,List.nil_append,List.cons_append,List.filter_cons,List.filter_nil,List.contains_cons,List.contains_nil,bne_self_eq_false,beq_self_eq_true,List.map_cons,List.map_nil,h0,aE,aF,aN,aM,Jb,jq,Vq,pW,f1,f2,f3,f4,f5,f6,Int.toNat_natCast,ad8,sC,ad9,q1,fu,v1,v2,CA,v4,JJ,yc,f7,f8,List.take_zero,List.nil_append,List.append_nil]
     have sR:=c9.1 (by omega)
     rw[if_neg (by omega)]at fM
     rw[sR]at fM
     have Qq:a5 (a / 4^u)=R*2:=by rw[LD,sR];omega
     have QK:a / 4^u - a5 (a / 4^u)*a5 (a / 4^u)=L*4+d:=by rw[LD,sR,fM];omega
     repeat (refine And.intro (by first|omega|(simp only[aO];omega)|(simp only[aO]at*;omega)|(simp only[List.length_append,List.length_cons,List.length_nil,List.length_set,b4];omega)) ?_)
     refine⟨⟨fx n L,2,d,by rw[fu];rfl,rfl,qK _ _,by rw[fu];omega,by omega,by omega,by rw[v1,fu];omega⟩,
      ⟨fx n R,2,1,by rw[fu];rfl,rfl,qK _ _,by rw[fu];omega,by omega,by omega,by rw[v2,fu];omega⟩,
      ⟨fx n (L*4+d),fx n (R*4+1),by rw[fu,fu],rfl,qK _ _,qK _ _,by rw[fu];omega,by rw[fu,fu]⟩,
      ⟨fx n R,1,0,by rw[fu];rfl,rfl,qK _ _,by rw[fu];omega,by omega,by omega,by rw[v2,fu];omega⟩,?_⟩
     repeat (refine And.intro (by first|omega|(simp only[aO];omega)|(simp only[aO]at*;omega)|(simp only[List.length_append,List.length_cons,List.length_nil,List.length_set,b4];omega)) ?_)
     refine⟨⟨u,fx n (R*4+1),by omega,by rw[QK],by rw[Qq],rfl,fu _ _,qK _ _,by omega⟩,by omega⟩
   ·simp (maxSteps:=2000000) only[↓al,ak,↓reduceIte,reduceCtorEq,Nat.reduceEqDiff,Nat.reduceLeDiff,Nat.reduceSub,Nat.reduceAdd,Int.reduceToNat,Nat.reducePow,Int.reducePow,Int.reduceLE,Int.reduceLT,IntKind.bits,b0,Nat.reduceBneDiff,Nat.reduceBeqDiff,Nat.reduceLT,List.flatMap_cons,List.flatMap_nil,List.append_nil,List.nil_append,List.cons_append,List.filter_cons,List.filter_nil,List.contains_cons,List.contains_nil,bne_self_eq_false,beq_self_eq_true,List.map_cons,List.map_nil,h0,aE,aF,aN,aM,Jb,jq,Vq,pW]
    have:t=0:=by omega
    subst this
    rw[Nat.pow_zero,Nat.div_one]
 ·rintro s ⟨aF,jq⟩
  have ah:(fx n (a5 a)).take n=fx n (a5 a):=List.take_of_length_le (by rw[fu];omega)
  simp (maxSteps:=2000000) only[↓al,ak,↓reduceIte,reduceCtorEq,Nat.reduceEqDiff,Nat.reduceLeDiff,Nat.reduceSub,Nat.reduceAdd,Int.reduceToNat,Nat.reducePow,Int.reducePow,Int.reduceLE,Int.reduceLT,IntKind.bits,b0,Nat.reduceBneDiff,Nat.reduceBeqDiff,Nat.reduceLT,List.flatMap_cons,List.flatMap_nil,List.append_nil,List.nil_append,List.cons_append,List.filter_cons,List.filter_nil,List.contains_cons,List.contains_nil,bne_self_eq_false,beq_self_eq_true,List.map_cons,List.map_nil,aF,jq,f117,wT,jV,fu,ah]
  repeat (refine And.intro (by first|omega|(simp only[aO];omega)|(simp only[aO]at*;omega)|(simp only[List.length_append,List.length_cons,List.length_nil,List.length_set,b4];omega)) ?_)
  refine⟨⟨_,rfl,qK _ _,by rw[fu];omega⟩,?_⟩
  rw[CS (by omega)]
def Fe (p:Int→Bool) (xs:List Int):Int:=match xs.findIdx? p with
 |some i=>i
 |none=> -1
def z4 (x:Int):Bool:=x !=0
def Bx (x:Int):Bool:=decide (x<0)||decide (x>16777215)
theorem acf {p:Int→Bool} {xs:List Int} {i:Nat} (hi:i<xs.length) (h:p (xs.getD i 0)=true) (af:∀k,k<i→p (xs.getD k 0)=false):Fe p xs=i:=by
 have:xs.findIdx? p=some i:=by
  rw[List.findIdx?_eq_some_iff_getElem]
  refine⟨hi,?_,fun j aH=> ?_⟩
  ·rw[List.getD_eq_getElem?_getD,List.getElem?_eq_getElem hi]at h;exact h
  ·have:=af j aH
   rw[List.getD_eq_getElem?_getD,List.getElem?_eq_getElem (by omega)]at this
   simpa using this
 unfold Fe;rw[this]
theorem ZO {p:Int→Bool} {xs:List Int} (af:∀k,k<xs.length→p (xs.getD k 0)=false):Fe p xs= -1:=by
 have:xs.findIdx? p=none:=by
  rw[List.findIdx?_eq_none_iff]
  intro x aj
  obtain⟨i,hi,rfl⟩:=List.mem_iff_getElem.1 aj
  have:=af i hi
  rw[List.getD_eq_getElem?_getD,List.getElem?_eq_getElem hi]at this
  simpa using this
 unfold Fe;rw[this]
def tP:bC where
 pre:=fun ds=>∃x:Int,ds=[.int .i64 x]
 res:=fun ds=>match ds with
  |[.int _ x]=> .bool (x !=0)
  |_=> .nilp
theorem Ea (Γ:Env) (ds:List D) (h:tP.pre ds):bT Γ RN RO ds fun d=>d=tP.res ds:=by
 obtain⟨x,rfl⟩:=h
 simp (maxSteps:=2000000) only[↓al,ak,↓reduceIte,reduceCtorEq,Nat.reduceEqDiff,Nat.reduceLeDiff,Nat.reduceSub,Nat.reduceAdd,Int.reduceToNat,Nat.reducePow,Int.reducePow,Int.reduceLE,Int.reduceLT,IntKind.bits,RN,RO,tP]
def sD:bC where
 pre:=fun ds=>∃x:Int,ds=[.int .i64 x]
 res:=fun ds=>match ds with
  |[.int _ x]=> .bool (Bx x)
  |_=> .nilp
theorem Eb (Γ:Env) (ds:List D) (h:sD.pre ds):bT Γ L9 Ma ds fun d=>d=sD.res ds:=by
 obtain⟨x,rfl⟩:=h
 by_cases c:x<0
 ·simp (maxSteps:=2000000) only[↓al,ak,↓reduceIte,reduceCtorEq,Nat.reduceEqDiff,Nat.reduceLeDiff,Nat.reduceSub,Nat.reduceAdd,Int.reduceToNat,Nat.reducePow,Int.reducePow,Int.reduceLE,Int.reduceLT,IntKind.bits,L9,Ma,sD,Bx,c]
 ·simp (maxSteps:=2000000) only[↓al,ak,↓reduceIte,reduceCtorEq,Nat.reduceEqDiff,Nat.reduceLeDiff,Nat.reduceSub,Nat.reduceAdd,Int.reduceToNat,Nat.reducePow,Int.reducePow,Int.reduceLE,Int.reduceLT,IntKind.bits,L9,Ma,sD,Bx,c]
def pA:bC where
 pre:=fun ds=>∃xs:List Int,(ds=[.ints .i64 xs,.fn 122 [] []]∨ds=[.ints .i64 xs,.fn 126 [] []])∧xs.length≤100000
 res:=fun ds=>match ds with
  |[.ints _ xs,.fn g _ _]=> .int .i64 (Fe (if g=122 then z4 else Bx) xs)
  |_=> .nilp
theorem Ec (Γ:Env) (f122:Γ.fn 122=some tP) (aea:Γ.mt 122=none) (f126:Γ.fn 126=some sD) (aeb:Γ.mt 126=none) (ds:List D) (h:pA.pre ds):bT Γ L7 L8 ds fun d=>d=pA.res ds:=by
 obtain⟨xs,rfl|rfl,hlen⟩:=h
 ·simp (maxSteps:=2000000) only[↓al,ak,↓reduceIte,reduceCtorEq,Nat.reduceEqDiff,Nat.reduceLeDiff,Nat.reduceSub,Nat.reduceAdd,Int.reduceToNat,Nat.reducePow,Int.reducePow,Int.reduceLE,Int.reduceLT,IntKind.bits,L7,L8,pA]
  refine bZ (fun s=>∀k,k<xs.length→z4 (xs.getD k 0)=false) ?_ ?_
  ·simp (maxSteps:=2000000) only[↓al,ak,↓reduceIte,reduceCtorEq,Nat.reduceEqDiff,Nat.reduceLeDiff,Nat.reduceSub,Nat.reduceAdd,Int.reduceToNat,Nat.reducePow,Int.reducePow,Int.reduceLE,Int.reduceLT,IntKind.bits]
   refine fp (fun s=>∃i:Nat,s.ag 0= .d (.ints .i64 xs)∧s.ag 1= .d (.fn 122 [] [])∧s.ag 7= .d (.int .i64 xs.length)∧s.ag 8= .d (.int .i64 i)∧i≤xs.length∧∀k,k<i→z4 (xs.getD k 0)=false)
    (fun s=>match s.ag 8 with| .d (.int _ n)=>xs.length - n.toNat|_=>0) ?_ ?_
   ·refine⟨0,?_⟩
    simp (maxSteps:=2000000) only[↓al,ak,↓reduceIte,reduceCtorEq,Nat.reduceEqDiff,Nat.reduceLeDiff,Nat.reduceSub,Nat.reduceAdd,Int.reduceToNat,Nat.reducePow,Int.reducePow,Int.reduceLE,Int.reduceLT,IntKind.bits]
    exact⟨rfl,Nat.zero_le _,fun k af=>absurd af (Nat.not_lt_zero _)⟩
   ·rintro s ⟨i,h0,h1,aM,aY,hi,af⟩
    by_cases ci:(i:Int)<xs.length
    ·have a4:i<xs.length:=by omega
     cases a1:(xs.getD i 0 !=0)with
     |true=>
      simp (maxSteps:=2000000) only[↓al,ak,↓reduceIte,reduceCtorEq,Nat.reduceEqDiff,Nat.reduceLeDiff,Nat.reduceSub,Nat.reduceAdd,Int.reduceToNat,Nat.reducePow,Int.reducePow,Int.reduceLE,Int.reduceLT,IntKind.bits,h0,h1,aM,aY,ci,a4,f122,aea,tP,Int.toNat_natCast,a1]
      repeat (refine And.intro (by first|omega|(simp only[aO];omega)|(simp only[aO]at*;omega)|(simp only[List.length_append,List.length_cons,List.length_nil,List.length_set,b4];omega)) ?_)
      exact⟨⟨_,rfl⟩,by rw[acf a4 a1 af]⟩
     |false=>
      simp (maxSteps:=2000000) only[↓al,ak,↓reduceIte,reduceCtorEq,Nat.reduceEqDiff,Nat.reduceLeDiff,Nat.reduceSub,Nat.reduceAdd,Int.reduceToNat,Nat.reducePow,Int.reducePow,Int.reduceLE,Int.reduceLT,IntKind.bits,h0,h1,aM,aY,ci,a4,f122,aea,tP,Int.toNat_natCast,a1]
      repeat (refine And.intro (by first|omega|(simp only[aO];omega)|(simp only[aO]at*;omega)|(simp only[List.length_append,List.length_cons,List.length_nil,List.length_set,b4];omega)) ?_)
      refine⟨⟨_,rfl⟩,?_⟩
      repeat (refine And.intro (by first|omega|(simp only[aO];omega)|(simp only[aO]at*;omega)|(simp only[List.length_append,List.length_cons,List.length_nil,List.length_set,b4];omega)) ?_)
      refine⟨⟨i+1,by omega,by omega,fun k cn=> ?_⟩,by omega⟩
      by_cases e:k=i
      ·rw[e];exact a1
      ·exact af k (by omega)
    ·simp (maxSteps:=2000000) only[↓al,ak,↓reduceIte,reduceCtorEq,Nat.reduceEqDiff,Nat.reduceLeDiff,Nat.reduceSub,Nat.reduceAdd,Int.reduceToNat,Nat.reducePow,Int.reducePow,Int.reduceLE,Int.reduceLT,IntKind.bits,h0,h1,aM,aY,ci]
     exact fun k cn=>af k (by omega)
  ·intro s aQ
   simp (maxSteps:=2000000) only[↓al,ak,↓reduceIte,reduceCtorEq,Nat.reduceEqDiff,Nat.reduceLeDiff,Nat.reduceSub,Nat.reduceAdd,Int.reduceToNat,Nat.reducePow,Int.reducePow,Int.reduceLE,Int.reduceLT,IntKind.bits,ZO aQ]
 ·simp (maxSteps:=2000000) only[↓al,ak,↓reduceIte,reduceCtorEq,Nat.reduceEqDiff,Nat.reduceLeDiff,Nat.reduceSub,Nat.reduceAdd,Int.reduceToNat,Nat.reducePow,Int.reducePow,Int.reduceLE,Int.reduceLT,IntKind.bits,L7,L8,pA]
  refine bZ (fun s=>∀k,k<xs.length→Bx (xs.getD k 0)=false) ?_ ?_
  ·simp (maxSteps:=2000000) only[↓al,ak,↓reduceIte,reduceCtorEq,Nat.reduceEqDiff,Nat.reduceLeDiff,Nat.reduceSub,Nat.reduceAdd,Int.reduceToNat,Nat.reducePow,Int.reducePow,Int.reduceLE,Int.reduceLT,IntKind.bits]
   refine fp (fun s=>∃i:Nat,s.ag 0= .d (.ints .i64 xs)∧s.ag 1= .d (.fn 126 [] [])∧s.ag 7= .d (.int .i64 xs.length)∧s.ag 8= .d (.int .i64 i)∧i≤xs.length∧∀k,k<i→Bx (xs.getD k 0)=false)
    (fun s=>match s.ag 8 with| .d (.int _ n)=>xs.length - n.toNat|_=>0) ?_ ?_
   ·refine⟨0,?_⟩
    simp (maxSteps:=2000000) only[↓al,ak,↓reduceIte,reduceCtorEq,Nat.reduceEqDiff,Nat.reduceLeDiff,Nat.reduceSub,Nat.reduceAdd,Int.reduceToNat,Nat.reducePow,Int.reducePow,Int.reduceLE,Int.reduceLT,IntKind.bits]
    exact⟨rfl,Nat.zero_le _,fun k af=>absurd af (Nat.not_lt_zero _)⟩
   ·rintro s ⟨i,h0,h1,aM,aY,hi,af⟩
    by_cases ci:(i:Int)<xs.length
    ·have a4:i<xs.length:=by omega
     cases a1:Bx (xs.getD i 0)with
     |true=>
      simp (maxSteps:=2000000) only[↓al,ak,↓reduceIte,reduceCtorEq,Nat.reduceEqDiff,Nat.reduceLeDiff,Nat.reduceSub,Nat.reduceAdd,Int.reduceToNat,Nat.reducePow,Int.reducePow,Int.reduceLE,Int.reduceLT,IntKind.bits,h0,h1,aM,aY,ci,a4,f126,aeb,sD,Int.toNat_natCast,a1]
      repeat (refine And.intro (by first|omega|(simp only[aO];omega)|(simp only[aO]at*;omega)|(simp only[List.length_append,List.length_cons,List.length_nil,List.length_set,b4];omega)) ?_)
      exact⟨⟨_,rfl⟩,by rw[acf a4 a1 af]⟩
     |false=>
      simp (maxSteps:=2000000) only[↓al,ak,↓reduceIte,reduceCtorEq,Nat.reduceEqDiff,Nat.reduceLeDiff,Nat.reduceSub,Nat.reduceAdd,Int.reduceToNat,Nat.reducePow,Int.reducePow,Int.reduceLE,Int.reduceLT,IntKind.bits,h0,h1,aM,aY,ci,a4,f126,aeb,sD,Int.toNat_natCast,a1]
      repeat (refine And.intro (by first|omega|(simp only[aO];omega)|(simp only[aO]at*;omega)|(simp only[List.length_append,List.length_cons,List.length_nil,List.length_set,b4];omega)) ?_)
      refine⟨⟨_,rfl⟩,?_⟩
      repeat (refine And.intro (by first|omega|(simp only[aO];omega)|(simp only[aO]at*;omega)|(simp only[List.length_append,List.length_cons,List.length_nil,List.length_set,b4];omega)) ?_)
      refine⟨⟨i+1,by omega,by omega,fun k cn=> ?_⟩,by omega⟩
      by_cases e:k=i
      ·rw[e];exact a1
      ·exact af k (by omega)
    ·simp (maxSteps:=2000000) only[↓al,ak,↓reduceIte,reduceCtorEq,Nat.reduceEqDiff,Nat.reduceLeDiff,Nat.reduceSub,Nat.reduceAdd,Int.reduceToNat,Nat.reducePow,Int.reducePow,Int.reduceLE,Int.reduceLT,IntKind.bits,h0,h1,aM,aY,ci]
     exact fun k cn=>af k (by omega)
  ·intro s aQ
   simp (maxSteps:=2000000) only[↓al,ak,↓reduceIte,reduceCtorEq,Nat.reduceEqDiff,Nat.reduceLeDiff,Nat.reduceSub,Nat.reduceAdd,Int.reduceToNat,Nat.reducePow,Int.reducePow,Int.reduceLE,Int.reduceLT,IntKind.bits,ZO aQ]
def kE:bC where
 pre:=fun ds=>∃x:Int,ds=[.int .u64 x]∧0<x∧x<18446744073709551616
 res:=fun ds=>match ds with
  |[.int _ x]=> .int .i64 (b2 x.toNat)
  |_=> .nilp
theorem wrap_u64 {x:Int} (h0:0≤x) (h1:x<18446744073709551616):IntKind.u64.wrap x=x:=by
 unfold IntKind.wrap
 simp only[show IntKind.u64.bits=64 from rfl,show IntKind.u64.signed=false from rfl,Bool.false_and,Bool.false_eq_true,if_false]
 omega
def e1:bC where
 pre:=fun ds=>∃(b:Bool) (m:Nat) (e:Int),ds=[.bool b,aZ m,.int .i64 e]∧(ao m).length≤20000∧-1000000≤e∧e≤1000000
 res:=fun ds=>match ds with
  |[.bool b,.ints _ xs,.int _ e]=>aI (mk b (val xs) e)
  |_=> .nilp
theorem Ff (Γ:Env) (f121:Γ.fn 121=some pA) (aec:Γ.mt 121=none) (f123:Γ.fn 123=some kE) (am5:Γ.mt 123=none)
 (f84:Γ.fn 84=some jH) (Vs:Γ.mt 84=none) (ds:List D) (h:e1.pre ds):bT Γ Nq Nr ds fun d=>d=e1.res ds:=by
 obtain⟨b,m,e,rfl,aJ,S6,S7⟩:=h
 have N6:pA.own=false:=rfl
 have pi:pA.pre [.ints .i64 (ao m),.fn 122 [] []]:=⟨ao m,.inl rfl,by omega⟩
 by_cases h0:m=0
 ·have aD:pA.res [.ints .i64 (ao m),.fn 122 [] []]= .int .i64 (-1):=by
   rw[h0,hk];rfl
  have c:(-1:Int)<0:=by decide
  have hm:mk b m e=⟨false,0,0⟩:=by unfold mk;rw[if_pos h0]
  simp (maxSteps:=2000000) only[↓al,ak,↓reduceIte,reduceCtorEq,Nat.reduceEqDiff,Nat.reduceLeDiff,Nat.reduceSub,Nat.reduceAdd,Int.reduceToNat,Nat.reducePow,Int.reducePow,Int.reduceLE,Int.reduceLT,IntKind.bits,Nq,Nr,e1,aI,b5,f121,aec,N6,pi,aD,c,hm,hk]
 ·obtain⟨i,hi⟩:∃i,(ao m).findIdx? z4=some i:=by
   cases hf:(ao m).findIdx? z4 with
   |some i=>exact⟨i,rfl⟩
   |none=>
    exfalso
    rw[List.findIdx?_eq_none_iff]at hf
    have a1:=xG h0
    have aJ:=J2 h0
    have:=hf _ (List.getElem_mem (show (ao m).length - 1<(ao m).length by omega))
    rw[List.getD_eq_getElem?_getD,List.getElem?_eq_getElem (by omega)]at aJ
    simp only[z4,bne_eq_false_iff_eq]at this
    exact aJ this
  obtain⟨cC,c9,fM⟩:=List.findIdx?_eq_some_iff_getElem.1 hi
  have dw:(ao m).getD i 0≠0:=by
   rw[List.getD_eq_getElem?_getD,List.getElem?_eq_getElem cC]
   simpa [z4]using c9
  have eK:∀k,k<i→(ao m).getD k 0=0:=fun k af=>by
   have:=fM k af
   rw[List.getD_eq_getElem?_getD,List.getElem?_eq_getElem (by omega)]
   simpa [z4]using this
  have aoO:=akl cC eK dw
  have aL:=(c5 m).getD i
  have asb:=x1 (n:=((ao m).getD i 0).toNat) (k:=24) (by omega) (by have:=aL.2;omega)
  have aD:pA.res [.ints .i64 (ao m),.fn 122 [] []]= .int .i64 i:=by
   simp only[pA,if_pos,Fe,hi]
  have c:¬(i:Int)<0:=by omega
  have hw:=wrap_u64 (x:=(ao m).getD i 0) aL.1 (by omega)
  have a4:(i:Int)*24+(b2 ((ao m).getD i 0).toNat:Int)=(b2 m:Int):=by omega
  simp (maxSteps:=2000000) only[↓al,ak,↓reduceIte,reduceCtorEq,Nat.reduceEqDiff,Nat.reduceLeDiff,Nat.reduceSub,Nat.reduceAdd,Int.reduceToNat,Nat.reducePow,Int.reducePow,Int.reduceLE,Int.reduceLT,IntKind.bits,Nq,Nr,e1,aI,b5,f121,aec,N6,pi,aD,c,cC,hw,a4,f123,am5,kE,f84,Vs,jH,Int.toNat_natCast]
  repeat (refine And.intro (by first|omega|(simp only[aO];omega)|(simp only[aO]at*;omega)|(simp only[List.length_append,List.length_cons,List.length_nil,List.length_set,b4];omega)) ?_)
  refine⟨⟨_,rfl,by omega,by omega⟩,?_⟩
  have ua:=Ay m
  have asv:=x1 h0 (k4 m)
  repeat (refine And.intro (by first|omega|(simp only[aO];omega)|(simp only[aO]at*;omega)|(simp only[List.length_append,List.length_cons,List.length_nil,List.length_set,b4];omega)) ?_)
  refine⟨⟨_,_,rfl,c5 m,aJ,by simp only[aO];omega⟩,?_⟩
  repeat (refine And.intro (by first|omega|(simp only[aO];omega)|(simp only[aO]at*;omega)|(simp only[List.length_append,List.length_cons,List.length_nil,List.length_set,b4];omega)) ?_)
  unfold mk
  rw[if_neg h0]
def lA:bC where
 pre:=fun ds=>∃x:a6,ds=[aI x]∧bO x
 res:=fun ds=>match ds with
  |[p]=>aI (dx (eA p))
  |_=> .nilp
theorem Fg (Γ:Env) (f87:Γ.fn 87=some e1) (rA:Γ.mt 87=none) (ds:List D) (h:lA.pre ds):bT Γ UB UC ds fun d=>d=lA.res ds:=by
 obtain⟨x,rfl,aj⟩:=h
 have he:=kK aj
 have aJ:=hn aj
 have hf:=ZJ aj.1
 simp (maxSteps:=2000000) only[↓al,ak,↓reduceIte,reduceCtorEq,Nat.reduceEqDiff,Nat.reduceLeDiff,Nat.reduceSub,Nat.reduceAdd,Int.reduceToNat,Nat.reducePow,Int.reducePow,Int.reduceLE,Int.reduceLT,IntKind.bits,UB,UC,lA,aI,cd,f87,rA,e1,b5,hf]
 exact⟨_,_,_,rfl,by omega,by omega,by omega⟩
def hb:bC where
 pre:=fun ds=>∃(x:a6) (k:Int),ds=[aI x,.int .i64 k]∧bO x∧-100000≤k∧k≤100000
 res:=fun ds=>match ds with
  |[p,.int _ k]=>aI (gU (eA p) k)
  |_=> .nilp
theorem Fh (Γ:Env) (f87:Γ.fn 87=some e1) (rA:Γ.mt 87=none) (ds:List D) (h:hb.pre ds):bT Γ Ux Uy ds fun d=>d=hb.res ds:=by
 obtain⟨x,k,rfl,aj,EK,BQ⟩:=h
 have he:=kK aj
 have aJ:=hn aj
 simp (maxSteps:=2000000) only[↓al,ak,↓reduceIte,reduceCtorEq,Nat.reduceEqDiff,Nat.reduceLeDiff,Nat.reduceSub,Nat.reduceAdd,Int.reduceToNat,Nat.reducePow,Int.reducePow,Int.reduceLE,Int.reduceLT,IntKind.bits,Ux,Uy,hb,aI,cd,gU,f87,rA,e1,b5]
 repeat (refine And.intro (by first|omega|(simp only[aO];omega)|(simp only[aO]at*;omega)|(simp only[List.length_append,List.length_cons,List.length_nil,List.length_set,b4];omega)) ?_)
 exact⟨x.neg,x.m,x.e+k,rfl,by omega,by omega,by omega⟩
def kn:bC where
 pre:=fun ds=>∃(b:Bool) (xs:List Int) (e:Int),ds=[.agg [.bool b,.ints .i64 xs,.int .i64 e]]
 res:=fun ds=>match ds with
  |[.agg [.bool _,.ints _ xs,.int _ _]]=> .bool ((xs.length:Int)==0)
  |_=> .nilp
theorem Fi (Γ:Env) (ds:List D) (h:kn.pre ds):bT Γ Ve Vf ds fun d=>d=kn.res ds:=by
 obtain⟨b,xs,e,rfl⟩:=h
 simp (maxSteps:=2000000) only[↓al,ak,↓reduceIte,reduceCtorEq,Nat.reduceEqDiff,Nat.reduceLeDiff,Nat.reduceSub,Nat.reduceAdd,Int.reduceToNat,Nat.reducePow,Int.reducePow,Int.reduceLE,Int.reduceLT,IntKind.bits,Ve,Vf,kn]
theorem PA (x:a6):kn.res [.agg [.bool x.neg,.ints .i64 (ao x.m),.int .i64 x.e]]= .bool (decide (x.m=0)):=by
 show D.bool (((ao x.m).length:Int)==0)=_
 by_cases h0:x.m=0
 ·rw[I5 h0,decide_eq_true h0]
 ·rw[z0 h0,decide_eq_false h0]
def vt:bC where
 pre:=fun ds=>∃(x:a6) (k:Int),ds=[aI x,.int .i64 k]∧bO x∧-50000≤k∧k≤50000
 res:=fun ds=>match ds with
  |[p,.int _ k]=>aZ ((eA p).m*2^((eA p).e - k).toNat)
  |_=> .nilp
theorem Ed (Γ:Env) (f100:Γ.fn 100=some kg) (Mi:Γ.mt 100=none) (ds:List D) (h:vt.pre ds):bT Γ Rs Rt ds fun d=>d=vt.res ds:=by
 obtain⟨x,k,rfl,aj,EK,BQ⟩:=h
 have he:=kK aj
 have aJ:=hn aj
 simp (maxSteps:=2000000) only[↓al,ak,↓reduceIte,reduceCtorEq,Nat.reduceEqDiff,Nat.reduceLeDiff,Nat.reduceSub,Nat.reduceAdd,Int.reduceToNat,Nat.reducePow,Int.reducePow,Int.reduceLE,Int.reduceLT,IntKind.bits,Rs,Rt,vt,aI,cd,f100,Mi,kg,b5]
 repeat (refine And.intro (by first|omega|(simp only[aO];omega)|(simp only[aO]at*;omega)|(simp only[List.length_append,List.length_cons,List.length_nil,List.length_set,b4];omega)) ?_)
 exact⟨_,_,rfl,c5 _,by omega,by omega⟩
def q3:bC where
 pre:=fun ds=>∃x y:a6,ds=[aI x,aI y]∧bO x∧bO y
 res:=fun ds=>match ds with
  |[p,q]=>aI (cD (eA p) (eA q))
  |_=> .nilp
theorem Ee (Γ:Env) (f87:Γ.fn 87=some e1) (rA:Γ.mt 87=none) (f103:Γ.fn 103=some pz) (Mj:Γ.mt 103=none) (ds:List D) (h:q3.pre ds):bT Γ Rv Rw ds fun d=>d=q3.res ds:=by
 obtain⟨x,y,rfl,aj,hy⟩:=h
 have ex:=kK aj
 have An:=kK hy
 have da:=hn aj
 have hK:=hn hy
 have arc:=CH x.m y.m
 have az:=jc aj
 have WH:=jc hy
 have zT:=y1 (n:=x.m*y.m) (by omega)
 simp (maxSteps:=2000000) only[↓al,ak,↓reduceIte,reduceCtorEq,Nat.reduceEqDiff,Nat.reduceLeDiff,Nat.reduceSub,Nat.reduceAdd,Int.reduceToNat,Nat.reducePow,Int.reducePow,Int.reduceLE,Int.reduceLT,IntKind.bits,Rv,Rw,q3,aI,cd,cD,f87,rA,e1,f103,Mj,pz,b5]
 refine⟨⟨_,_,rfl,c5 _,c5 _,by omega,by omega⟩,?_⟩
 repeat (refine And.intro (by first|omega|(simp only[aO];omega)|(simp only[aO]at*;omega)|(simp only[List.length_append,List.length_cons,List.length_nil,List.length_set,b4];omega)) ?_)
 exact⟨_,_,_,rfl,zT,by omega,by omega⟩
end RV.Dr
namespace RV.Dr
open Go Go.RowKit RV
set_option linter.unusedSimpArgs false
set_option linter.unusedVariables false
set_option maxRecDepth 100000
set_option maxHeartbeats 4000000
theorem akV (x A j v:Int) (w:World) (h0:(x==0)=false) (hA:bits BinOp.and IntKind.u64 x (IntKind.u64.wrap (-x))=A) (aH:IntKind.u64.wrap (A*285870213051353865) / 288230376151711744=j)
 (aoW:0≤j) (EW:j<64) (au:w.cell? { block:=1,off:=j.toNat } =some (.int .u8 v)) (aC:IntKind.i64.wrap v=v):
 Calls Go.Proofs.Tryz.prog 142 #[.int .u64 x] w fun e w'=>e= .returned (.int .i64 v)∧w'=w:=by
 have asw:(0≤j∧j<64)=True:=by simp[aoW,EW]
 go_enter Go.Proofs.Tryz.func142,Go.Proofs.Tryz.ntmps142
 go_wp2
 go_ret
 exact⟨rfl,rfl⟩
theorem ajG {o s:Nat} (bu:o % 2=1) (aG:o<2^s):o &&& (2^s - o)=1:=by
 have HE:0<s:=by
  rcases Nat.eq_zero_or_pos s with h|h
  ·subst h;simp at aG;omega
  ·exact h
 have e:2^s - o=2^s - ((o - 1)+1):=by omega
 refine Nat.eq_of_testBit_eq fun i=> ?_
 rw[Nat.testBit_and,e,Nat.testBit_two_pow_sub_succ (by omega)]
 cases i with
 |zero=>
  have h1:o.testBit 0=true:=by rw[Nat.testBit_zero];simp[bu]
  have h2:(o - 1).testBit 0=false:=by rw[Nat.testBit_zero];simp;omega
  rw[h1,h2]
  simp[HE]
 |succ i=>
  have h1:o.testBit (i+1)=(o / 2).testBit i:=Nat.testBit_succ ..
  have h2:(o - 1).testBit (i+1)=(o / 2).testBit i:=by rw[Nat.testBit_succ,show (o - 1) / 2=o / 2 by omega]
  have aq:(1:Nat).testBit (i+1)=false:=by rw[Nat.testBit_succ];simp
  rw[h1,h2,aq]
  cases (o / 2).testBit i<;>simp
theorem akW {x:Nat} (h0:x≠0) (aj:x<2^64):x &&& (2^64 - x)=2^b2 x:=by
 have aG:=jB h0
 have ah:=x1 h0 aj
 obtain⟨o,bu⟩:∃o,o=x / 2^b2 x:=⟨_,rfl⟩
 rw[←bu]at aG
 have a1:(2:Nat)^64=2^(64 - b2 x)*2^b2 x:=by rw[←Nat.pow_add];congr 1;omega
 have bw:o<2^(64 - b2 x):=by
  rw[←aG.1,a1]at aj
  exact Nat.lt_of_mul_lt_mul_right aj
 have e:2^64 - x=(2^(64 - b2 x) - o)*2^b2 x:=by rw[Nat.sub_mul,←a1,aG.1]
 have bc:x &&& (2^64 - x)=(o*2^b2 x) &&& ((2^(64 - b2 x) - o)*2^b2 x):=by rw[aG.1,e]
 rw[bc,←Nat.shiftLeft_eq,←Nat.shiftLeft_eq,←Nat.shiftLeft_and_distrib,ajG aG.2 bw,Nat.shiftLeft_eq,Nat.one_mul]
def iC (t:Nat):Nat:=(2^t*285870213051353865 % 18446744073709551616) / 288230376151711744
theorem A9 (t:Nat):iC t<64:=by unfold iC;omega
def sE (B:Mem):Prop:=∀t:Nat,t<64→B (cellAt 1 (iC t))=some (.int .u8 t)
theorem ac7 (n:Int):IntKind.u64.wrap n=n % 18446744073709551616:=by
 unfold IntKind.wrap
 simp[show IntKind.u64.bits=64 from rfl,show IntKind.u64.signed=false from rfl]
def wU:bC where
 pre:=kE.pre
 res:=kE.res
theorem Dg {B:Mem} (ad:sE B):ld Go.Proofs.Tryz.prog B 142 wU:=by
 refine⟨⟨Go.Proofs.Tryz.f142,by kernel_rfl,by decide,by decide⟩,?_⟩
 rintro ds ⟨x,rfl,h0,h1⟩ w rd vs aoX aoY ar
 simp only[bV,bA]at ar
 obtain⟨v,us,aC,rfl,rfl⟩:=ar
 have Il:vs= #[.int .u64 x]:=by rw[←Array.toList_inj];exact aC
 subst Il
 obtain⟨n,rfl⟩:∃n:Nat,x=n:=⟨x.toNat,by omega⟩
 have dS:n≠0:=by omega
 have jm:n<2^64:=by omega
 have ah:=x1 dS jm
 have hw:IntKind.u64.wrap (-(n:Int))=((2^64 - n:Nat):Int):=by rw[ac7];omega
 have hA:bits BinOp.and IntKind.u64 (n:Int) (IntKind.u64.wrap (-(n:Int)))=((2^b2 n:Nat):Int):=by
  rw[hw,bits_and_u64_nat n (2^64 - n) jm (by omega),akW dS jm]
 have aH:IntKind.u64.wrap (((2^b2 n:Nat):Int)*285870213051353865) / 288230376151711744=((iC (b2 n):Nat):Int):=by
  rw[ac7]
  unfold iC
  generalize 2^b2 n=p
  omega
 have fB:w.cell? { block:=1,off:=((iC (b2 n):Nat):Int).toNat } =some (.int .u8 ((b2 n:Nat):Int)):=by
  rw[Int.toNat_natCast]
  exact aoY _ _ (aoX _ _ (ad _ ah))
 have j1:IntKind.i64.wrap ((b2 n:Nat):Int)=((b2 n:Nat):Int):=wrap_small (by omega)
 have aoZ:((n:Int)==0)=false:=by simpa using dS
 refine(akV n _ _ _ w aoZ hA aH (by omega) (by have:=A9 (b2 n);omega) fB j1).mono ?_
 rintro e w' ⟨rfl,rfl⟩
 refine⟨_,rfl,Below.refl _ _,fun _=> ?_,fun h=>by cases h⟩
 simp only[bA,wU,kE,Int.toNat_natCast]
theorem Ef (Γ:Env) (f142:Γ.fn 142=some wU) (am6:Γ.mt 142=none) (ds:List D) (h:kE.pre ds):bT Γ RP RQ ds fun d=>d=kE.res ds:=by
 obtain⟨x,rfl,h0,h1⟩:=h
 simp (maxSteps:=2000000) only[↓al,ak,↓reduceIte,reduceCtorEq,Nat.reduceEqDiff,Nat.reduceLeDiff,Nat.reduceSub,Nat.reduceAdd,Int.reduceToNat,Nat.reducePow,Int.reducePow,Int.reduceLE,Int.reduceLT,IntKind.bits,RP,RQ,kE,f142,am6,wU]
 exact⟨x,rfl,h0,h1⟩
end RV.Dr
namespace RV.Dr
open Go RV
set_option linter.unusedSimpArgs false
set_option linter.unusedVariables false
set_option maxRecDepth 100000
set_option maxHeartbeats 4000000
def hM (K:Int) (Q:Nat):Nat:=(K % (2^Q:Nat)).toNat
def pX (K:Int) (Q:Nat):Nat:=hM K Q / 2^b2 (hM K Q)
def pY (K:Int) (Q:Nat):Nat:=if hM K Q=0 then 0 else Q - b2 (hM K Q)
def cq (K Q:Int):D:= .agg [.int .i64 K,.int .i64 Q]
theorem LF (K:Int) (Q:Nat):hM K Q<2^Q:=by
 have:=Int.emod_lt_of_pos K (show (0:Int)<(2^Q:Nat)by exact_mod_cast Nat.two_pow_pos Q)
 have:=Int.emod_nonneg K (show ((2^Q:Nat):Int)≠0 by have:=Nat.two_pow_pos Q;omega)
 unfold hM
 omega
theorem PW (K:Int) (Q:Nat):K % (2^Q:Nat)=(hM K Q:Int):=by
 have:=Int.emod_nonneg K (show ((2^Q:Nat):Int)≠0 by have:=Nat.two_pow_pos Q;omega)
 unfold hM
 omega
theorem ac8 {K:Int} {Q:Nat} (h:hM K Q≠0):b2 (hM K Q)<Q:=x1 h (LF K Q)
theorem ac9 {Q:Nat} (h:Q≤60):2^Q≤1152921504606846976:=Nat.pow_le_pow_right (n:=2) (by decide) h
def an (K:Int) (Q:Nat):Nat:=((K*(2^(60 - Q):Nat)) % (1152921504606846976:Int)).toNat
def bS (a:Nat):Nat:=a / 2^b2 a
def a2 (a:Nat):Nat:=if a=0 then 0 else 60 - b2 a
def iW (a:Nat):D:=cq (bS a) (a2 a)
theorem hv (K:Int) (Q:Nat):an K Q<1152921504606846976:=by unfold an;omega
theorem amb (K:Int) {Q:Nat} (h:Q≤60):an K Q=hM K Q*2^(60 - Q):=by
 have e:(1152921504606846976:Int)=(2^Q:Nat)*(2^(60 - Q):Nat):=by
  rw[←Int.natCast_mul,←Nat.pow_add,show Q+(60 - Q)=60 by omega];decide
 unfold an
 rw[e,Int.mul_comm K,Int.mul_comm ((2^Q:Nat):Int),Int.mul_emod_mul_of_pos _ _ (by have:=Nat.two_pow_pos (60 - Q);omega),PW,Int.mul_comm,←Int.natCast_mul,Int.toNat_natCast]
theorem QL (K:Int) {Q:Nat} (h:Q≤60):pX K Q=bS (an K Q)∧pY K Q=a2 (an K Q):=by
 rw[amb K h]
 unfold pX pY bS a2
 by_cases h0:hM K Q=0
 ·rw[h0];exact⟨by simp,by simp⟩
 ·have a1:=Nat.two_pow_pos (60 - Q)
  have h1:hM K Q*2^(60 - Q)≠0:=Nat.ne_of_gt (Nat.mul_pos (Nat.pos_of_ne_zero h0) a1)
  have h2:=ac8 h0
  rw[if_neg h0,if_neg h1,Nat.mul_comm,OX h0]
  refine⟨?_,by omega⟩
  rw[Nat.pow_add,Nat.mul_div_mul_left _ _ a1]
theorem ada (K:Int) {Q:Nat} (h:Q≤60):cq (pX K Q) (pY K Q)=iW (an K Q):=by rw[(QL K h).1,(QL K h).2];rfl
theorem xS:bS 0=0∧a2 0=0:=⟨by unfold bS;exact Nat.zero_div _,if_pos rfl⟩
theorem Mk {a:Nat} (h0:a≠0) (h:a<1152921504606846976):b2 a<60:=x1 (k:=60) h0 h
theorem p9 (a:Nat):a2 a≤60:=by unfold a2;split<;>omega
theorem Be {a:Nat} (h:a<1152921504606846976):bS a*2^(60 - a2 a)=a:=by
 by_cases h0:a=0
 ·subst h0;rw[xS.1,Nat.zero_mul]
 ·have h1:=Mk h0 h
  unfold bS a2
  rw[if_neg h0,show 60 - (60 - b2 a)=b2 a by omega]
  exact(jB h0).1
theorem LG {a:Nat} (h:a<1152921504606846976):bS a<1152921504606846976:=Nat.lt_of_le_of_lt (Nat.div_le_self _ _) h
theorem Hh (k q:Nat):an (k:Int) q=k*2^(60 - q) % 1152921504606846976:=by unfold an;omega
theorem jf {a:Nat} (h:a<1152921504606846976):an (bS a) (a2 a)=a:=by rw[Hh,Be h];exact Nat.mod_eq_of_lt h
theorem acg (K:Int) (Q:Nat):an (-K) Q=(1152921504606846976 - an K Q) % 1152921504606846976:=by unfold an;rw[Int.neg_mul];omega
theorem ach (K L:Int) (Q:Nat):an (K+L) Q=(an K Q+an L Q) % 1152921504606846976:=by unfold an;rw[Int.add_mul];omega
theorem aci (K:Int) {Q q:Nat} (h1:Q≤q) (h2:q≤60):an (K*(2^(q - Q):Nat)) q=an K Q:=by
 unfold an
 rw[Int.mul_assoc,←Int.natCast_mul,←Nat.pow_add,show q - Q+(60 - q)=60 - Q by omega]
theorem C9 {a q:Nat} (h:a<1152921504606846976) (h1:a2 a≤q) (h2:q≤60):bS a*2^(q - a2 a)=a / 2^(60 - q):=by
 refine(Nat.div_eq_of_eq_mul_left (Nat.two_pow_pos _) ?_).symm
 rw[Nat.mul_assoc,←Nat.pow_add,show q - a2 a+(60 - q)=60 - a2 a by omega,Be h]
theorem qa (K:Int) {Q:Nat} (h:Q≤60):a2 (an K Q)≤Q:=by rw[←(QL K h).2];unfold pY;split<;>omega
theorem b3 {Γ:Env} {a b:ay} {Q:e6→St→Prop} {σ:St} (P:St→Prop) (a9:cp Γ a (fun e s=>match e with| .normal=>P s|e=>Q e s) σ) (aw:∀s,P s→cp Γ b Q s):cp Γ (.seq a b) Q σ:=bZ (a:=a) (b:=b) P a9 aw
def lj:bC where
 pre:=fun ds=>∃(K:Int) (Q:Nat),ds=[cq K Q]∧Q≤60
 res:=fun ds=>match ds with
  |[.agg [.int _ K,.int _ Q]]=>iW (an K Q.toNat)
  |_=> .nilp
theorem Eg (Γ:Env) (am7:Γ.has 123 kE) (ds:List D) (h:lj.pre ds):bT Γ L3 L4 ds fun d=>d=lj.res ds:=by
 obtain⟨K,Q,rfl,cK⟩:=h
 have a1:=ac9 cK
 have h0:=Nat.two_pow_pos Q
 have Bs:Q≤64:=by omega
 have j1:IntKind.u64.wrap (hM K Q:Int)=(hM K Q:Int):=wrap_u64 (by omega) (by have:=LF K Q;omega)
 have ug:(1:Int)*2^Q=((2^Q:Nat):Int):=by rw[Int.one_mul];exact_mod_cast rfl
 have BR:((2^Q:Nat):Int) - 1=((2^Q - 1:Nat):Int):=by omega
 have hand:lb .i64 K ((2^Q - 1:Nat):Int)=(hM K Q:Int):=by rw[GQ Q (by omega),PW]
 have bw:=LF K Q
 have cu:lj.res [cq K Q]=cq (pX K Q) (pY K Q):=by simp only[lj,cq,Int.toNat_natCast];exact(ada K cK).symm
 rw[cu]
 by_cases aQ:hM K Q=0
 ·have a4:pX K Q=0:=by unfold pX;rw[aQ];exact Nat.zero_div _
  have bc:pY K Q=0:=by unfold pY;rw[if_pos aQ]
  have amc:lb .i64 K ((2^Q - 1:Nat):Int)=0:=by rw[hand,aQ];rfl
  rw[fU]
  unfold L3 L4
  refine b3 (fun s=>s.ag 1= .box 1 0∧s.az 1=some ⟨false,false,.cells [.d (.int .i64 K),.d (.int .i64 Q)]⟩∧s.ag 2= .box 2 0∧s.az 2=some ⟨false,false,.cells [.d (.int .i64 0),.d (.int .i64 0)]⟩) ?_ ?_
  ·simp (maxSteps:=2000000) only[↓al,ak,↓reduceIte,reduceCtorEq,Nat.reduceEqDiff,Nat.reduceLeDiff,Nat.reduceSub,Nat.reduceAdd,Int.reduceToNat,Nat.reducePow,Int.reducePow,Int.reduceLE,Int.reduceLT,IntKind.bits,cq]
  rintro s ⟨h1,cy,h2,aR⟩
  refine b3 (fun s=>s.ag 1= .box 1 0∧s.az 1=some ⟨false,false,.cells [.d (.int .i64 0),.d (.int .i64 Q)]⟩∧s.ag 2= .box 2 0∧s.az 2=some ⟨false,false,.cells [.d (.int .i64 0),.d (.int .i64 0)]⟩) ?_ ?_
  ·simp (maxSteps:=2000000) only[↓al,ak,↓reduceIte,reduceCtorEq,Nat.reduceEqDiff,Nat.reduceLeDiff,Nat.reduceSub,Nat.reduceAdd,Int.reduceToNat,Nat.reducePow,Int.reducePow,Int.reduceLE,Int.reduceLT,IntKind.bits,h1,cy,h2,aR,Int.toNat_natCast,Bs,ug,BR,amc]
   ((repeat' apply And.intro)<;>first|assumption|with_reducible rfl|omega|(simp only[aO];omega)|exact⟨_,rfl⟩|exact⟨_,_,_,rfl⟩|exact⟨_,_,_,_,_,_,rfl⟩)
  rintro s ⟨h1,cy,h2,aR⟩
  have Vt:((pX K Q:Nat):Int)=0:=by rw[a4];rfl
  have Vu:((pY K Q:Nat):Int)=0:=by rw[bc];rfl
  simp (maxSteps:=2000000) only[↓al,ak,↓reduceIte,reduceCtorEq,Nat.reduceEqDiff,Nat.reduceLeDiff,Nat.reduceSub,Nat.reduceAdd,Int.reduceToNat,Nat.reducePow,Int.reducePow,Int.reduceLE,Int.reduceLT,IntKind.bits,h1,cy,h2,aR,Vt,Vu,cq]
 ·have br:=ac8 aQ
  have aw:((hM K Q:Int)==0)=false:=beq_false_of_ne (by omega)
  have am8:b2 (hM K Q)≤64:=by omega
  have ao0:((hM K Q:Nat):Int).fdiv (2^b2 (hM K Q))=(pX K Q:Int):=by
   rw[Int.fdiv_eq_ediv_of_nonneg _ (Int.le_of_lt (Int.pow_pos (by decide)))]
   unfold pX
   exact_mod_cast rfl
  have arh:(Q:Int) - b2 (hM K Q)=(pY K Q:Int):=by unfold pY;rw[if_neg aQ];omega
  have ari:kE.pre [.int .u64 (hM K Q)]:=⟨_,rfl,by omega,by omega⟩
  have arj:kE.res [.int .u64 (hM K Q)]= .int .i64 (b2 (hM K Q)):=by simp only[kE,Int.toNat_natCast]
  simp (maxSteps:=60000) only[↓al,ak,↓reduceIte,reduceCtorEq,Nat.reduceEqDiff,Nat.reduceLeDiff,Nat.reduceSub,Nat.reduceAdd,Int.reduceToNat,Nat.reducePow,Int.reducePow,Int.reduceLE,Int.reduceLT,IntKind.bits,L3,L4,cq,Int.toNat_natCast,Bs,ug,BR,hand,aw,j1,am7,ari,arj,am8,ao0,arh]
  ((repeat' apply And.intro)<;>first|assumption|with_reducible rfl|omega|(simp only[aO];omega)|exact⟨_,rfl⟩|exact⟨_,_,_,rfl⟩|exact⟨_,_,_,_,_,_,rfl⟩)
theorem Eh (K:Int) (Q:Nat):lj.res [.agg [.int .i64 K,.int .i64 Q]]= .agg [.int .i64 (bS (an K Q)),.int .i64 (a2 (an K Q))]:=by simp only[lj,Int.toNat_natCast];rfl
theorem i111 (K:Int) {Q:Nat} (h:Q≤60):lj.pre [.agg [.int .i64 K,.int .i64 Q]]:=⟨K,Q,rfl,h⟩
def lk:bC where
 pre:=fun ds=>∃(K:Int) (Q:Nat),ds=[cq K Q]∧Q≤60∧aO (-K)
 res:=fun ds=>match ds with
  |[.agg [.int _ K,.int _ Q]]=>iW (an (-K) Q.toNat)
  |_=> .nilp
theorem Ei (Γ:Env) (zp:Γ.has 111 lj) (ds:List D) (h:lk.pre ds):bT Γ Sq Sr ds fun d=>d=lk.res ds:=by
 obtain⟨K,Q,rfl,cK,ar⟩:=h
 have cu:lk.res [cq K Q]=iW (an (-K) Q):=by simp only[lk,cq,Int.toNat_natCast]
 rw[cu]
 have p1:=i111 (-K) cK
 have bX:=Eh (-K) Q
 simp (maxSteps:=2000000) only[↓al,ak,↓reduceIte,reduceCtorEq,Nat.reduceEqDiff,Nat.reduceLeDiff,Nat.reduceSub,Nat.reduceAdd,Int.reduceToNat,Nat.reducePow,Int.reducePow,Int.reduceLE,Int.reduceLT,IntKind.bits,Sq,Sr,cq,zp,Int.zero_sub,p1,bX,ar,iW]
theorem aed (K:Int) (Q:Nat):lk.res [.agg [.int .i64 K,.int .i64 Q]]= .agg [.int .i64 (bS (an (-K) Q)),.int .i64 (a2 (an (-K) Q))]:=by simp only[lk,Int.toNat_natCast];rfl
def qg:bC where
 pre:=fun ds=>∃(K:Int) (Q:Nat) (L:Int) (R:Nat),ds=[cq K Q,cq L R]∧Q≤60∧R≤60
 res:=fun ds=>match ds with
  |[.agg [.int _ K,.int _ Q],.agg [.int _ L,.int _ R]]=>iW ((an K Q.toNat+an L R.toNat) % 1152921504606846976)
  |_=> .nilp
theorem Ej (Γ:Env) (zp:Γ.has 111 lj) (ds:List D) (h:qg.pre ds):bT Γ Ss Sv ds fun d=>d=qg.res ds:=by
 obtain⟨K,Q,L,R,rfl,cK,en⟩:=h
 have cu:qg.res [cq K Q,cq L R]=iW ((an K Q+an L R) % 1152921504606846976):=by simp only[qg,cq,Int.toNat_natCast]
 rw[cu]
 have p1:=i111 K cK
 have bX:=Eh K Q
 have cU:=i111 L en
 have ch:=Eh L R
 obtain⟨a,a9⟩:∃a,a=an K Q:=⟨_,rfl⟩
 obtain⟨b,aw⟩:∃b,b=an L R:=⟨_,rfl⟩
 have cI:a<1152921504606846976:=a9▸hv K Q
 have dC:b<1152921504606846976:=aw▸hv L R
 have ark:a2 a≤60:=p9 a
 have as6:a2 b≤60:=p9 b
 rw[←a9]at bX
 rw[←aw]at ch
 rw[←a9,←aw]
 obtain⟨q,a7⟩:∃q,q=max (a2 a) (a2 b):=⟨_,rfl⟩
 have sR:a2 a≤q:=by omega
 have ud:a2 b≤q:=by omega
 have B7:q≤60:=by omega
 have s1:(q:Int) - (a2 a:Int)=((q - a2 a:Nat):Int):=by omega
 have s2:(q:Int) - (a2 b:Int)=((q - a2 b:Nat):Int):=by omega
 have b8:(bS a:Int)*2^(q - a2 a)=((bS a*2^(q - a2 a):Nat):Int):=by rw[Int.natCast_mul];exact_mod_cast rfl
 have cL:(bS b:Int)*2^(q - a2 b)=((bS b*2^(q - a2 b):Nat):Int):=by rw[Int.natCast_mul];exact_mod_cast rfl
 have cC:=C9 cI sR B7
 have c9:=C9 dC ud B7
 have bs:a / 2^(60 - q)≤a:=Nat.div_le_self _ _
 have bq:b / 2^(60 - q)≤b:=Nat.div_le_self _ _
 have hh:q - a2 a≤64:=by omega
 have iX:q - a2 b≤64:=by omega
 have gT:=i111 (((bS a*2^(q - a2 a):Nat):Int)+((bS b*2^(q - a2 b):Nat):Int)) B7
 have gS:=Eh (((bS a*2^(q - a2 a):Nat):Int)+((bS b*2^(q - a2 b):Nat):Int)) q
 rw[ach,Int.natCast_mul,Int.natCast_mul,aci _ sR B7,aci _ ud B7,jf cI,jf dC,←Int.natCast_mul,←Int.natCast_mul]at gS
 rw[fU]
 unfold Ss Sv
 refine b3 (fun s=>s.ag 2= .box 2 0∧s.az 2=some ⟨false,false,.cells [.d (.int .i64 K),.d (.int .i64 Q)]⟩∧s.ag 3= .box 3 0∧s.az 3=some ⟨false,false,.cells [.d (.int .i64 L),.d (.int .i64 R)]⟩∧s.ag 4= .box 4 0∧s.az 4=some ⟨false,false,.cells [.d (.int .i64 0),.d (.int .i64 0)]⟩) ?_ ?_
 ·simp (maxSteps:=2000000) only[↓al,ak,↓reduceIte,reduceCtorEq,Nat.reduceEqDiff,Nat.reduceLeDiff,Nat.reduceSub,Nat.reduceAdd,Int.reduceToNat,Nat.reducePow,Int.reducePow,Int.reduceLE,Int.reduceLT,IntKind.bits,cq]
 rintro s ⟨h2,aR,aq,aW,aE,aS⟩
 refine b3 (fun s=>s.ag 2= .box 2 0∧s.az 2=some ⟨false,false,.cells [.d (.int .i64 (bS a)),.d (.int .i64 (a2 a))]⟩∧s.ag 3= .box 3 0∧s.az 3=some ⟨false,false,.cells [.d (.int .i64 (bS b)),.d (.int .i64 (a2 b))]⟩∧s.ag 4= .box 4 0∧s.az 4=some ⟨false,false,.cells [.d (.int .i64 0),.d (.int .i64 0)]⟩) ?_ ?_
 ·simp (maxSteps:=2000000) only[↓al,ak,↓reduceIte,reduceCtorEq,Nat.reduceEqDiff,Nat.reduceLeDiff,Nat.reduceSub,Nat.reduceAdd,Int.reduceToNat,Nat.reducePow,Int.reducePow,Int.reduceLE,Int.reduceLT,IntKind.bits,h2,aR,aq,aW,aE,aS,zp,p1,bX,cU,ch]
 rintro s ⟨h2,aR,aq,aW,aE,aS⟩
 refine b3 (fun s=>s.ag 5= .d (.int .i64 q)∧s.ag 2= .box 2 0∧s.az 2=some ⟨false,false,.cells [.d (.int .i64 (bS a)),.d (.int .i64 (a2 a))]⟩∧s.ag 3= .box 3 0∧s.az 3=some ⟨false,false,.cells [.d (.int .i64 (bS b)),.d (.int .i64 (a2 b))]⟩∧s.ag 4= .box 4 0∧s.az 4=some ⟨false,false,.cells [.d (.int .i64 0),.d (.int .i64 0)]⟩) ?_ ?_
 ·simp (maxSteps:=2000000) only[↓al,ak,↓reduceIte,reduceCtorEq,Nat.reduceEqDiff,Nat.reduceLeDiff,Nat.reduceSub,Nat.reduceAdd,Int.reduceToNat,Nat.reducePow,Int.reducePow,Int.reduceLE,Int.reduceLT,IntKind.bits,h2,aR,aq,aW,aE,aS]
  split<;>omega
 rintro s ⟨aF,h2,aR,aq,aW,aE,aS⟩
 simp (maxSteps:=2000000) only[↓al,ak,↓reduceIte,reduceCtorEq,Nat.reduceEqDiff,Nat.reduceLeDiff,Nat.reduceSub,Nat.reduceAdd,Int.reduceToNat,Nat.reducePow,Int.reducePow,Int.reduceLE,Int.reduceLT,IntKind.bits,aF,h2,aR,aq,aW,aE,aS,cq,zp,s1,s2,Int.toNat_natCast,hh,iX,b8,cL,gT,gS,iW]
 ((repeat' apply And.intro)<;>first|assumption|with_reducible rfl|omega|(simp only[aO];omega)|exact⟨_,rfl⟩|exact⟨_,_,_,rfl⟩|exact⟨_,_,_,_,_,_,rfl⟩)
def sF:bC where
 pre:=fun ds=>∃e:Nat,ds=[.int .i64 e]∧e≤8
 res:=fun ds=>match ds with
  |[.int _ e]=>iW (an (-e) 3)
  |_=> .nilp
theorem Ek (Γ:Env) (SH:Γ.has 149 lk) (ds:List D) (h:sF.pre ds):bT Γ So Sp ds fun d=>d=sF.res ds:=by
 obtain⟨e,rfl,he⟩:=h
 have p1:lk.pre [.agg [.int .i64 e,.int .i64 3]]:=⟨e,3,rfl,by omega,by simp only[aO];omega⟩
 have bX:=aed e 3
 have ao1:lk.res [.agg [.int .i64 e,.int .i64 3]]= .agg [.int .i64 (bS (an (-e) 3)),.int .i64 (a2 (an (-e) 3))]:=bX
 simp (maxSteps:=2000000) only[↓al,ak,↓reduceIte,reduceCtorEq,Nat.reduceEqDiff,Nat.reduceLeDiff,Nat.reduceSub,Nat.reduceAdd,Int.reduceToNat,Nat.reducePow,Int.reducePow,Int.reduceLE,Int.reduceLT,IntKind.bits,So,Sp,cq,SH,p1,ao1,sF,iW]
def cw (a:Nat):Nat:=a / 144115188075855872
def cz (a:Nat):Nat:=if cw a % 2=0 then a - cw a*144115188075855872 else (cw a+1)*144115188075855872 - a
def yh (a:Nat):D:= .agg [.int .i64 (cw a),.int .i64 (bS (cz a)),.int .i64 (a2 (cz a))]
def q4:bC where
 pre:=fun ds=>∃(K:Int) (Q:Nat),ds=[cq K Q]∧Q≤60
 res:=fun ds=>match ds with
  |[.agg [.int _ K,.int _ Q]]=>yh (an K Q.toNat)
  |_=> .nilp
def q5:bC where
 pre:=fun ds=>∃e:Int,ds=[.int .i64 e]∧0≤e∧e≤7
 res:=fun ds=>match ds with
  |[.int _ e]=> .fh [.bool (decide (e=1∨e=2∨e=5∨e=6)),.bool (decide (2≤e∧e≤5)),.bool (decide (4≤e))]
  |_=> .nilp
theorem Bf {a:Nat} (h:a<1152921504606846976):cw a≤7:=by unfold cw;omega
theorem Dh (a:Nat):cz a≤144115188075855872:=by unfold cz cw;split<;>omega
theorem af0 (e:Nat) (h:e≤8):an (-(e:Int)) 3=(1152921504606846976 - e*144115188075855872) % 1152921504606846976:=by
 unfold an
 have:((2^(60 - 3):Nat):Int)=144115188075855872:=by decide
 rw[this];omega
theorem akn {a:Nat} (h:a<1152921504606846976) (he:cw a % 2=0):(a+an (-(cw a:Int)) 3) % 1152921504606846976=cz a:=by
 have h1:=Bf h
 rw[af0 _ (by omega)]
 unfold cz
 rw[if_pos he]
 unfold cw at*
 omega
theorem akX {a:Nat} (h:a<1152921504606846976) (he:¬cw a % 2=0):(1152921504606846976 - (a+an (-((cw a+1:Nat):Int)) 3) % 1152921504606846976) % 1152921504606846976=cz a:=by
 have h1:=Bf h
 rw[af0 _ (by omega)]
 unfold cz
 rw[if_neg he]
 unfold cw at*
 omega
theorem arl {a:Nat} (h:a<1152921504606846976) (aq:3≤a2 a):bS a / 2^(a2 a - 3)=cw a:=by
 have h1:=Be h
 have h2:=p9 a
 unfold cw
 rw[show (144115188075855872:Nat)=2^(60 - a2 a)*2^(a2 a - 3)by rw[←Nat.pow_add,show 60 - a2 a+(a2 a - 3)=57 by omega],←Nat.div_div_eq_div_mul]
 congr 1
 exact(Nat.div_eq_of_eq_mul_left (Nat.two_pow_pos _) h1.symm).symm
theorem NB {a:Nat} (h:a<1152921504606846976) (aq:a2 a≤3):bS a*2^(3 - a2 a)=cw a:=by
 rw[C9 h aq (by omega)];rfl
theorem El (Γ:Env) (ds:List D) (h:q5.pre ds):bT Γ R9 Sb ds fun d=>d=q5.res ds:=by
 obtain⟨e,rfl,ao2,he⟩:=h
 have:e=0∨e=1∨e=2∨e=3∨e=4∨e=5∨e=6∨e=7:=by omega
 have aY:((8:Nat):Int)=8:=rfl
 have aq:((3:Nat):Int)=3:=rfl
 rcases this with rfl|rfl|rfl|rfl|rfl|rfl|rfl|rfl<;>
  (simp (maxSteps:=2000000) only[↓al,ak,↓reduceIte,reduceCtorEq,Nat.reduceEqDiff,Nat.reduceLeDiff,Nat.reduceSub,Nat.reduceAdd,Int.reduceToNat,Nat.reducePow,Int.reducePow,Int.reduceLE,Int.reduceLT,IntKind.bits,R9,Sb,aq,q5,Int.reduceGT,Nat.reduceMul,aY,ai.cY,List.map_cons,List.map_nil,List.drop_succ_cons,List.drop_zero,List.take_succ_cons,List.take_zero,or_self,or_true,true_or,Int.reduceEq]<;>decide)
theorem aee (e:Nat):sF.res [.int .i64 e]= .agg [.int .i64 (bS (an (-(e:Int)) 3)),.int .i64 (a2 (an (-(e:Int)) 3))]:=rfl
theorem aef (K:Int) (Q:Nat) (L:Int) (R:Nat):qg.res [.agg [.int .i64 K,.int .i64 Q],.agg [.int .i64 L,.int .i64 R]]= .agg [.int .i64 (bS ((an K Q+an L R) % 1152921504606846976)),.int .i64 (a2 ((an K Q+an L R) % 1152921504606846976))]:=by simp only[qg,Int.toNat_natCast];rfl
def Bz (k q:Int) (s:St):Prop:=s.ag 2= .box 2 0∧s.az 2=some ⟨false,false,.cells [.d (.int .i64 0),.d (.int .i64 0),.d (.int .i64 0)]⟩∧s.ag 3= .box 3 0∧s.az 3=some ⟨false,false,.cells [.d (.int .i64 k),.d (.int .i64 q)]⟩
theorem Em (Γ:Env) (zp:Γ.has 111 lj) (aeg:Γ.has 148 sF) (aeh:Γ.has 150 qg) (SH:Γ.has 149 lk) (ds:List D) (h:q4.pre ds):bT Γ R5 R6 ds fun d=>d=q4.res ds:=by
 obtain⟨K,Q,rfl,cK⟩:=h
 have cu:q4.res [cq K Q]=yh (an K Q):=by simp only[q4,cq,Int.toNat_natCast]
 rw[cu]
 have p1:=i111 K cK
 have bX:=Eh K Q
 obtain⟨a,a9⟩:∃a,a=an K Q:=⟨_,rfl⟩
 have cI:a<1152921504606846976:=a9▸hv K Q
 have ark:a2 a≤60:=p9 a
 rw[←a9]at bX⊢
 have eN:=Bf cI
 obtain⟨k,q,ao3⟩:∃k q,(k=if a2 a<3 then bS a*2^(3 - a2 a)else bS a)∧q=max (a2 a) 3:=⟨_,_,rfl,rfl⟩
 obtain⟨af,a7⟩:=ao3
 have ek:k / 2^(q - 3)=cw a:=by
  rw[af,a7]
  split
  ·rename_i h;rw[NB cI (by omega),show max (a2 a) 3 - 3=0 by omega,Nat.pow_zero,Nat.div_one]
  ·rename_i h;rw[show max (a2 a) 3=a2 a by omega];exact arl cI (by omega)
 have ahu:an k q=a:=by
  rw[af,a7,Hh]
  split
  ·rename_i h;rw[NB cI (by omega),show max (a2 a) 3=3 by omega]
   have:=C9 cI (q:=3) (by omega) (by omega)
   have h2:=NB cI (by omega:a2 a≤3)
   have aq:=Be cI
   rw[show 60 - a2 a=(3 - a2 a)+57 by omega,Nat.pow_add,←Nat.mul_assoc,h2]at aq
   omega
  ·rename_i h;rw[show max (a2 a) 3=a2 a by omega,←Hh,jf cI]
 have asc:k<1152921504606846976:=by
  rw[af];split
  ·rw[NB cI (by omega)];omega
  ·exact LG cI
 have sR:3≤q:=by omega
 have ud:q≤60:=by omega
 rw[fU]
 unfold R5 R6
 refine b3 (fun s=>s.ag 1= .box 1 0∧s.az 1=some ⟨false,false,.cells [.d (.int .i64 K),.d (.int .i64 Q)]⟩∧s.ag 2= .box 2 0∧s.az 2=some ⟨false,false,.cells [.d (.int .i64 0),.d (.int .i64 0),.d (.int .i64 0)]⟩) ?_ ?_
 ·simp (maxSteps:=2000000) only[↓al,ak,↓reduceIte,reduceCtorEq,Nat.reduceEqDiff,Nat.reduceLeDiff,Nat.reduceSub,Nat.reduceAdd,Int.reduceToNat,Nat.reducePow,Int.reducePow,Int.reduceLE,Int.reduceLT,IntKind.bits,cq]
 rintro s ⟨h1,cy,h2,aR⟩
 refine b3 (fun s=>Bz (bS a) (a2 a) s) ?_ ?_
 ·simp (maxSteps:=2000000) only[↓al,ak,↓reduceIte,reduceCtorEq,Nat.reduceEqDiff,Nat.reduceLeDiff,Nat.reduceSub,Nat.reduceAdd,Int.reduceToNat,Nat.reducePow,Int.reducePow,Int.reduceLE,Int.reduceLT,IntKind.bits,h1,cy,h2,aR,zp,p1,bX,Bz]
 rintro s ⟨h2,aR,aq,aW⟩
 by_cases h0:a=0
 ·subst h0
  have dg:((bS 0:Nat):Int)=0:=by rw[xS.1];rfl
  have dP:((a2 0:Nat):Int)=0:=by rw[xS.2];rfl
  have a4:((cw 0:Nat):Int)=0:=rfl
  have bc:cz 0=0:=rfl
  rw[dg,dP]at aW
  refine b3 (fun s=>Bz 0 0 s) ?_ ?_
  ·simp (maxSteps:=2000000) only[↓al,ak,↓reduceIte,reduceCtorEq,Nat.reduceEqDiff,Nat.reduceLeDiff,Nat.reduceSub,Nat.reduceAdd,Int.reduceToNat,Nat.reducePow,Int.reducePow,Int.reduceLE,Int.reduceLT,IntKind.bits,h2,aR,aq,aW,Bz,Int.reduceSub,Int.reduceGT,beq_self_eq_true,Bool.and_self,Bool.not_true]
   ((repeat' apply And.intro)<;>first|assumption|with_reducible rfl|omega|(simp only[aO];omega)|exact⟨_,rfl⟩|exact⟨_,_,_,rfl⟩|exact⟨_,_,_,_,_,_,rfl⟩)
  rintro s ⟨h2,aR,aq,aW⟩
  simp (maxSteps:=2000000) only[↓al,ak,↓reduceIte,reduceCtorEq,Nat.reduceEqDiff,Nat.reduceLeDiff,Nat.reduceSub,Nat.reduceAdd,Int.reduceToNat,Nat.reducePow,Int.reducePow,Int.reduceLE,Int.reduceLT,IntKind.bits,h2,aR,aq,aW,yh,a4,bc,dg,dP,beq_self_eq_true,Bool.and_self]
 have asx:1≤a2 a:=by unfold a2;rw[if_neg h0];have:=Mk h0 cI;omega
 have ck:((a2 a:Int)==0)=false:=beq_false_of_ne (by omega)
 have af1:((q:Int)==0)=false:=beq_false_of_ne (by omega)
 refine b3 (fun s=>Bz k q s) ?_ ?_
 ·by_cases bd:a2 a<3
  ·have bs:(3:Int) - a2 a=((3 - a2 a:Nat):Int):=by omega
   have bq:((3 - a2 a:Nat):Int)>0:=by omega
   have fm:3 - a2 a≤64:=by omega
   have e2:(bS a:Int)*2^(3 - a2 a)=(k:Int):=by rw[af,if_pos bd,Int.natCast_mul];exact_mod_cast rfl
   have e3:(q:Int)=3:=by omega
   simp (maxSteps:=2000000) only[↓al,ak,↓reduceIte,reduceCtorEq,Nat.reduceEqDiff,Nat.reduceLeDiff,Nat.reduceSub,Nat.reduceAdd,Int.reduceToNat,Nat.reducePow,Int.reducePow,Int.reduceLE,Int.reduceLT,IntKind.bits,h2,aR,aq,aW,Bz,bs,bq,fm,e2,e3,ck,Int.toNat_natCast,Bool.and_false,Bool.not_false]
   ((repeat' apply And.intro)<;>first|assumption|with_reducible rfl|omega|(simp only[aO];omega)|exact⟨_,rfl⟩|exact⟨_,_,_,rfl⟩|exact⟨_,_,_,_,_,_,rfl⟩)
  ·have bq:¬((3:Int) - q>0):=by omega
   have e2:(bS a:Int)=(k:Int):=by rw[af,if_neg bd]
   have e3:(a2 a:Int)=q:=by omega
   simp (maxSteps:=2000000) only[↓al,ak,↓reduceIte,reduceCtorEq,Nat.reduceEqDiff,Nat.reduceLeDiff,Nat.reduceSub,Nat.reduceAdd,Int.reduceToNat,Nat.reducePow,Int.reducePow,Int.reduceLE,Int.reduceLT,IntKind.bits,h2,aR,aq,aW,Bz,bq,e2,e3]
   ((repeat' apply And.intro)<;>first|assumption|with_reducible rfl|omega|(simp only[aO];omega)|exact⟨_,rfl⟩|exact⟨_,_,_,rfl⟩|exact⟨_,_,_,_,_,_,rfl⟩)
 rintro s ⟨h2,aR,aq,aW⟩
 have s1:(q:Int) - 3=((q - 3:Nat):Int):=by omega
 have hh:q - 3≤64:=by omega
 have fd:(k:Int).fdiv (2^(q - 3))=(cw a:Int):=by
  rw[Int.fdiv_eq_ediv_of_nonneg _ (Int.le_of_lt (Int.pow_pos (by decide))),←ek]
  exact_mod_cast rfl
 have ahv:lb .i64 (cw a:Int) 1=((cw a % 2:Nat):Int):=(GQ 1 (by omega) (cw a):lb .i64 (cw a:Int) ((2^1 - 1:Nat):Int)=_).trans (by omega)
 by_cases he:cw a % 2=0
 ·have aw:(((cw a % 2:Nat):Int)==0)=true:=by rw[he];rfl
  have ps:sF.pre [.int .i64 (cw a)]:=⟨cw a,rfl,by omega⟩
  have rs:=aee (cw a)
  obtain⟨x,aj⟩:∃x,x=an (-(cw a:Int)) 3:=⟨_,rfl⟩
  have da:x<1152921504606846976:=aj▸hv _ _
  have Fj:=akn cI he
  rw[←aj]at rs Fj
  have pa:qg.pre [.agg [.int .i64 k,.int .i64 q],.agg [.int .i64 (bS x),.int .i64 (a2 x)]]:=⟨k,q,bS x,a2 x,rfl,ud,p9 x⟩
  have oR:=aef k q (bS x) (a2 x)
  rw[ahu,jf da,Fj]at oR
  simp (maxSteps:=2000000) only[↓al,ak,↓reduceIte,reduceCtorEq,Nat.reduceEqDiff,Nat.reduceLeDiff,Nat.reduceSub,Nat.reduceAdd,Int.reduceToNat,Nat.reducePow,Int.reducePow,Int.reduceLE,Int.reduceLT,IntKind.bits,h2,aR,aq,aW,af1,Bool.and_false,s1,hh,Int.toNat_natCast,fd,ahv,aw,aeg,ps,rs,aeh,pa,oR,yh]
  ((repeat' apply And.intro)<;>first|assumption|with_reducible rfl|omega|(simp only[aO];omega)|exact⟨_,rfl⟩|exact⟨_,_,_,rfl⟩|exact⟨_,_,_,_,_,_,rfl⟩)
 ·have aw:(((cw a % 2:Nat):Int)==0)=false:=beq_false_of_ne (by omega)
  have ps:sF.pre [.int .i64 ((cw a+1:Nat):Int)]:=⟨cw a+1,rfl,by omega⟩
  have rs:=aee (cw a+1)
  obtain⟨x,aj⟩:∃x,x=an (-((cw a+1:Nat):Int)) 3:=⟨_,rfl⟩
  have da:x<1152921504606846976:=aj▸hv _ _
  have Fj:=akX cI he
  rw[←aj]at rs Fj
  have pa:qg.pre [.agg [.int .i64 k,.int .i64 q],.agg [.int .i64 (bS x),.int .i64 (a2 x)]]:=⟨k,q,bS x,a2 x,rfl,ud,p9 x⟩
  have oR:=aef k q (bS x) (a2 x)
  rw[ahu,jf da]at oR
  obtain⟨y,hy⟩:∃y,y=(a+x) % 1152921504606846976:=⟨_,rfl⟩
  have hK:y<1152921504606846976:=by omega
  rw[←hy]at oR Fj
  have kY:lk.pre [.agg [.int .i64 (bS y),.int .i64 (a2 y)]]:=⟨bS y,a2 y,rfl,p9 y,by have:=LG hK;simp only[aO];omega⟩
  have iY:=aed (bS y) (a2 y)
  rw[acg,jf hK,Fj]at iY
  have ao4:(cw a:Int)+1=((cw a+1:Nat):Int):=by omega
  simp (maxSteps:=2000000) only[↓al,ak,↓reduceIte,reduceCtorEq,Nat.reduceEqDiff,Nat.reduceLeDiff,Nat.reduceSub,Nat.reduceAdd,Int.reduceToNat,Nat.reducePow,Int.reducePow,Int.reduceLE,Int.reduceLT,IntKind.bits,h2,aR,aq,aW,af1,Bool.and_false,s1,hh,Int.toNat_natCast,fd,ahv,aw,ao4,aeg,ps,rs,aeh,pa,oR,SH,kY,iY,yh]
  ((repeat' apply And.intro)<;>first|assumption|with_reducible rfl|omega|(simp only[aO];omega)|exact⟨_,rfl⟩|exact⟨_,_,_,rfl⟩|exact⟨_,_,_,_,_,_,rfl⟩)
def pJ:bC where
 pre:=fun ds=>∃x:a6,ds=[aI x]
 res:=fun ds=>match ds with
  |[p]=> .int .i64 (ia (eA p))
  |_=> .nilp
theorem Fk (Γ:Env) (f98:Γ.fn 98=some kn) (z5:Γ.mt 98=none) (ds:List D) (h:pJ.pre ds):bT Γ IF IG ds fun d=>d=pJ.res ds:=by
 obtain⟨x,rfl⟩:=h
 have xt:kn.own=false:=rfl
 have xu:kn.pre [.agg [.bool x.neg,.ints .i64 (ao x.m),.int .i64 x.e]]:=⟨_,_,_,rfl⟩
 by_cases h0:x.m=0
 ·have aj:ia x=0:=by unfold ia;rw[if_pos h0]
  have v8:kn.res [.agg [.bool x.neg,.ints .i64 (ao x.m),.int .i64 x.e]]= .bool true:=by rw[PA,decide_eq_true h0]
  simp (maxSteps:=2000000) only[↓al,ak,↓reduceIte,reduceCtorEq,Nat.reduceEqDiff,Nat.reduceLeDiff,Nat.reduceSub,Nat.reduceAdd,Int.reduceToNat,Nat.reducePow,Int.reducePow,Int.reduceLE,Int.reduceLT,IntKind.bits,IF,IG,pJ,aI,cd,aj,f98,z5,xt,xu,v8]
 ·have v8:kn.res [.agg [.bool x.neg,.ints .i64 (ao x.m),.int .i64 x.e]]= .bool false:=by rw[PA,decide_eq_false h0]
  cases aQ:x.neg with
  |true=>
   have aj:ia x= -1:=by unfold ia;rw[if_neg h0,aQ];rfl
   have hy:=cd x
   rw[aQ]at hy xu v8
   simp (maxSteps:=2000000) only[↓al,ak,↓reduceIte,reduceCtorEq,Nat.reduceEqDiff,Nat.reduceLeDiff,Nat.reduceSub,Nat.reduceAdd,Int.reduceToNat,Nat.reducePow,Int.reducePow,Int.reduceLE,Int.reduceLT,IntKind.bits,IF,IG,pJ,aI,aQ,hy,aj,f98,z5,xt,xu,v8]
  |false=>
   have aj:ia x=1:=by unfold ia;rw[if_neg h0,aQ];rfl
   have hy:=cd x
   rw[aQ]at hy xu v8
   simp (maxSteps:=2000000) only[↓al,ak,↓reduceIte,reduceCtorEq,Nat.reduceEqDiff,Nat.reduceLeDiff,Nat.reduceSub,Nat.reduceAdd,Int.reduceToNat,Nat.reducePow,Int.reducePow,Int.reduceLE,Int.reduceLT,IntKind.bits,IF,IG,pJ,aI,aQ,hy,aj,f98,z5,xt,xu,v8]
theorem aaS {Γ:Env} {c:bB} {a b:ay} {Q:e6→St→Prop} {σ:St} (h:σ.a3 c= .d (.bool false)) (k:cp Γ b Q σ):cp Γ (.cond c a b) Q σ:=by
 simp only[cp,h]
 exact⟨fun e=>(by cases e),fun _=>k⟩
def ko:bC where
 pre:=fun ds=>∃x y:a6,ds=[aI x,aI y]∧bO x∧bO y
 res:=fun ds=>match ds with
  |[p,q]=>aI (dZ (eA p) (eA q))
  |_=> .nilp
theorem Fl (Γ:Env) (f87:Γ.fn 87=some e1) (rA:Γ.mt 87=none) (f106:Γ.fn 106=some vt) (am9:Γ.mt 106=none)
 (f85:Γ.fn 85=some jo) (Jc:Γ.mt 85=none) (f107:Γ.fn 107=some jX) (aei:Γ.mt 107=none) (f98:Γ.fn 98=some kn) (z5:Γ.mt 98=none)
 (f64:Γ.fn 64=some hb) (m64:Γ.mt 64=none)
 (ds:List D) (h:ko.pre ds):bT Γ Uz UA ds fun d=>d=ko.res ds:=by
 obtain⟨x,y,rfl,aj,hy⟩:=h
 have ex:=kK aj
 have An:=kK hy
 have da:=hn aj
 have hK:=hn hy
 have az:=jc aj
 have WH:=jc hy
 have xt:kn.own=false:=rfl
 have xu:∀z:a6,kn.pre [.agg [.bool z.neg,.ints .i64 (ao z.m),.int .i64 z.e]]:=fun z=>⟨_,_,_,rfl⟩
 have v8:∀z:a6,kn.res [.agg [.bool z.neg,.ints .i64 (ao z.m),.int .i64 z.e]]= .bool (decide (z.m=0)):=fun z=>PA z
 have NC:hb.own=false:=rfl
 have z6:∀z:a6,bO z→hb.pre [.agg [.bool z.neg,.ints .i64 (ao z.m),.int .i64 z.e],.int .i64 0]:=fun z br=>⟨z,0,rfl,br,by omega,by omega⟩
 have af2:∀z:a6,bO z→hb.res [.agg [.bool z.neg,.ints .i64 (ao z.m),.int .i64 z.e],.int .i64 0]= .agg [.bool z.neg,.ints .i64 (ao z.m),.int .i64 z.e]:=fun z br=>by
  simp only[hb,cd,Kh br.1,aI,aZ]
 rw[fU]
 unfold Uz UA
 refine bZ (fun s=>s.ag 2= .box 2 0∧s.az 2=some ⟨false,false,.cells [.d (.bool x.neg),.d (.ints .i64 (ao x.m)),.d (.int .i64 x.e)]⟩∧s.ag 3= .box 3 0∧s.az 3=some ⟨false,false,.cells [.d (.bool y.neg),.d (.ints .i64 (ao y.m)),.d (.int .i64 y.e)]⟩∧s.ag 4= .box 4 0∧(∃bN bs bq,s.az 4=some ⟨false,false,.cells [bN,bs,bq]⟩)∧s.az 5=none∧s.az 6=none) ?_ ?_
 ·simp (maxSteps:=2000000) only[↓al,ak,↓reduceIte,reduceCtorEq,Nat.reduceEqDiff,Nat.reduceLeDiff,Nat.reduceSub,Nat.reduceAdd,Int.reduceToNat,Nat.reducePow,Int.reducePow,Int.reduceLE,Int.reduceLT,IntKind.bits,aI]
  exact⟨_,_,_,rfl⟩
 rintro s ⟨h2,aR,aq,aW,aE,⟨bN,bs,bq,aS⟩,bm,a8⟩
 refine bZ (fun s=>s.ag 2= .box 2 0∧s.az 2=some ⟨false,false,.cells [.d (.bool x.neg),.d (.ints .i64 (ao x.m)),.d (.int .i64 x.e)]⟩∧s.ag 3= .box 3 0∧s.az 3=some ⟨false,false,.cells [.d (.bool y.neg),.d (.ints .i64 (ao y.m)),.d (.int .i64 y.e)]⟩∧s.ag 5= .box 5 0∧s.az 5=some ⟨false,false,.cells [.d (.bool x.neg),.d (.ints .i64 (ao x.m)),.d (.int .i64 x.e)]⟩∧s.ag 6= .box 6 0∧s.az 6=some ⟨false,false,.cells [.d (.bool y.neg),.d (.ints .i64 (ao y.m)),.d (.int .i64 y.e)]⟩∧s.ag 4= .box 4 0∧(∃bN bs bq,s.az 4=some ⟨false,false,.cells [bN,bs,bq]⟩)) ?_ ?_
 ·simp (maxSteps:=2000000) only[↓al,ak,↓reduceIte,reduceCtorEq,Nat.reduceEqDiff,Nat.reduceLeDiff,Nat.reduceSub,Nat.reduceAdd,Int.reduceToNat,Nat.reducePow,Int.reducePow,Int.reduceLE,Int.reduceLT,IntKind.bits,h2,aR,aq,aW,aE,aS,bm,a8,Nat.reduceBeqDiff,Nat.reduceBneDiff]
  exact⟨_,_,_,rfl⟩
 clear h2 aR aq aW aE aS bm a8
 rintro s ⟨h2,aR,aq,aW,aF,bm,aN,a8,aE,bN,bs,bq,aS⟩
 rw[k3]
 by_cases h0:x.m=0
 ·have ar:dZ x y=y:=by unfold dZ;rw[if_pos h0]
  have aL:=decide_eq_true h0
  simp (maxSteps:=2000000) only[↓al,ak,↓reduceIte,reduceCtorEq,Nat.reduceEqDiff,Nat.reduceLeDiff,Nat.reduceSub,Nat.reduceAdd,Int.reduceToNat,Nat.reducePow,Int.reducePow,Int.reduceLE,Int.reduceLT,IntKind.bits,ko,aI,cd,ar,h2,aR,aq,aW,aF,bm,aN,a8,aE,aS,f98,z5,xt,xu,v8,aL,f64,m64,NC,z6 y hy,af2 y hy]
 have MH:=decide_eq_false h0
 refine bZ (fun s=>s.ag 71= .d (.bool false)∧s.ag 2= .box 2 0∧s.az 2=some ⟨false,false,.cells [.d (.bool x.neg),.d (.ints .i64 (ao x.m)),.d (.int .i64 x.e)]⟩∧s.ag 3= .box 3 0∧s.az 3=some ⟨false,false,.cells [.d (.bool y.neg),.d (.ints .i64 (ao y.m)),.d (.int .i64 y.e)]⟩∧s.ag 5= .box 5 0∧s.az 5=some ⟨false,false,.cells [.d (.bool x.neg),.d (.ints .i64 (ao x.m)),.d (.int .i64 x.e)]⟩∧s.ag 6= .box 6 0∧s.az 6=some ⟨false,false,.cells [.d (.bool y.neg),.d (.ints .i64 (ao y.m)),.d (.int .i64 y.e)]⟩∧s.ag 4= .box 4 0∧(∃bN bs bq,s.az 4=some ⟨false,false,.cells [bN,bs,bq]⟩)) ?_ ?_
 ·simp (maxSteps:=2000000) only[↓al,ak,↓reduceIte,reduceCtorEq,Nat.reduceEqDiff,Nat.reduceLeDiff,Nat.reduceSub,Nat.reduceAdd,Int.reduceToNat,Nat.reducePow,Int.reducePow,Int.reduceLE,Int.reduceLT,IntKind.bits,h2,aR,aq,aW,aF,bm,aN,a8,aE,aS,f98,z5,xt,xu,v8,MH]
  exact⟨_,_,_,rfl⟩
 clear h2 aR aq aW aF bm aN a8 aE aS
 rintro s ⟨Jd,h2,aR,aq,aW,aF,bm,aN,a8,aE,bN,bs,bq,aS⟩
 refine aaS Jd ?_
 by_cases h1:y.m=0
 ·have ar:dZ x y=x:=by unfold dZ;rw[if_neg h0,if_pos h1]
  have aL:=decide_eq_true h1
  simp (maxSteps:=2000000) only[↓al,ak,↓reduceIte,reduceCtorEq,Nat.reduceEqDiff,Nat.reduceLeDiff,Nat.reduceSub,Nat.reduceAdd,Int.reduceToNat,Nat.reducePow,Int.reducePow,Int.reduceLE,Int.reduceLT,IntKind.bits,ko,aI,cd,ar,h2,aR,aq,aW,aF,bm,aN,a8,aE,aS,f98,z5,xt,xu,v8,aL,f64,m64,NC,z6 x aj,af2 x aj]
 have km:=decide_eq_false h1
 refine bZ (fun s=>s.ag 76= .d (.bool false)∧s.ag 2= .box 2 0∧s.az 2=some ⟨false,false,.cells [.d (.bool x.neg),.d (.ints .i64 (ao x.m)),.d (.int .i64 x.e)]⟩∧s.ag 3= .box 3 0∧s.az 3=some ⟨false,false,.cells [.d (.bool y.neg),.d (.ints .i64 (ao y.m)),.d (.int .i64 y.e)]⟩∧s.ag 5= .box 5 0∧s.az 5=some ⟨false,false,.cells [.d (.bool x.neg),.d (.ints .i64 (ao x.m)),.d (.int .i64 x.e)]⟩∧s.ag 6= .box 6 0∧s.az 6=some ⟨false,false,.cells [.d (.bool y.neg),.d (.ints .i64 (ao y.m)),.d (.int .i64 y.e)]⟩∧s.ag 4= .box 4 0∧(∃bN bs bq,s.az 4=some ⟨false,false,.cells [bN,bs,bq]⟩)) ?_ ?_
 ·simp (maxSteps:=2000000) only[↓al,ak,↓reduceIte,reduceCtorEq,Nat.reduceEqDiff,Nat.reduceLeDiff,Nat.reduceSub,Nat.reduceAdd,Int.reduceToNat,Nat.reducePow,Int.reducePow,Int.reduceLE,Int.reduceLT,IntKind.bits,h2,aR,aq,aW,aF,bm,aN,a8,aE,aS,f98,z5,xt,xu,v8,km]
  exact⟨_,_,_,rfl⟩
 clear h2 aR aq aW aF bm aN a8 aE aS Jd
 rintro s ⟨Je,h2,aR,aq,aW,aF,bm,aN,a8,aE,bN,bs,bq,aS⟩
 refine aaS Je ?_
 obtain⟨E,eN⟩:∃E,E=min x.e y.e:=⟨_,rfl⟩
 have jh:(if y.e<x.e then y.e else x.e)=E:=by split<;>omega
 obtain⟨X,jv⟩:∃X,X=x.m*2^(x.e - E).toNat:=⟨_,rfl⟩
 obtain⟨Y,iV⟩:∃Y,Y=y.m*2^(y.e - E).toNat:=⟨_,rfl⟩
 have arn:bp X≤200000:=by rw[jv,p2 h0];omega
 have ao5:bp Y≤200000:=by rw[iV,p2 h1];omega
 have aro:=fo X
 have arp:=fo Y
 refine bZ (fun s=>s.ag 7= .d (.int .i64 E)∧s.ag 2= .box 2 0∧s.az 2=some ⟨false,false,.cells [.d (.bool x.neg),.d (.ints .i64 (ao x.m)),.d (.int .i64 x.e)]⟩∧s.ag 3= .box 3 0∧s.az 3=some ⟨false,false,.cells [.d (.bool y.neg),.d (.ints .i64 (ao y.m)),.d (.int .i64 y.e)]⟩∧s.ag 5= .box 5 0∧s.az 5=some ⟨false,false,.cells [.d (.bool x.neg),.d (.ints .i64 (ao x.m)),.d (.int .i64 x.e)]⟩∧s.ag 6= .box 6 0∧s.az 6=some ⟨false,false,.cells [.d (.bool y.neg),.d (.ints .i64 (ao y.m)),.d (.int .i64 y.e)]⟩∧s.ag 4= .box 4 0∧(∃bN bs bq,s.az 4=some ⟨false,false,.cells [bN,bs,bq]⟩)) ?_ ?_
 ·simp (maxSteps:=2000000) only[↓al,ak,↓reduceIte,reduceCtorEq,Nat.reduceEqDiff,Nat.reduceLeDiff,Nat.reduceSub,Nat.reduceAdd,Int.reduceToNat,Nat.reducePow,Int.reducePow,Int.reduceLE,Int.reduceLT,IntKind.bits,h2,aR,aq,aW,aF,bm,aN,a8,aE,aS,jh]
  exact⟨_,_,_,rfl⟩
 clear h2 aR aq aW aF bm aN a8 aE aS Je
 rintro s ⟨aM,h2,aR,aq,aW,aF,bm,aN,a8,aE,bN,bs,bq,aS⟩
 refine bZ (fun s=>s.ag 9= .d (.ints .i64 (ao Y))∧s.ag 8= .d (.ints .i64 (ao X))∧s.ag 7= .d (.int .i64 E)∧s.ag 2= .box 2 0∧s.az 2=some ⟨false,false,.cells [.d (.bool x.neg),.d (.ints .i64 (ao x.m)),.d (.int .i64 x.e)]⟩∧s.ag 3= .box 3 0∧s.az 3=some ⟨false,false,.cells [.d (.bool y.neg),.d (.ints .i64 (ao y.m)),.d (.int .i64 y.e)]⟩∧s.ag 5= .box 5 0∧s.az 5=some ⟨false,false,.cells [.d (.bool x.neg),.d (.ints .i64 (ao x.m)),.d (.int .i64 x.e)]⟩∧s.ag 6= .box 6 0∧s.az 6=some ⟨false,false,.cells [.d (.bool y.neg),.d (.ints .i64 (ao y.m)),.d (.int .i64 y.e)]⟩∧s.ag 4= .box 4 0∧(∃bN bs bq,s.az 4=some ⟨false,false,.cells [bN,bs,bq]⟩)) ?_ ?_
 ·simp (maxSteps:=2000000) only[↓al,ak,↓reduceIte,reduceCtorEq,Nat.reduceEqDiff,Nat.reduceLeDiff,Nat.reduceSub,Nat.reduceAdd,Int.reduceToNat,Nat.reducePow,Int.reducePow,Int.reduceLE,Int.reduceLT,IntKind.bits,aM,h2,aR,aq,aW,aF,bm,aN,a8,aE,aS,f106,am9,vt,cd,←jv,←iV]
  exact⟨⟨x,E,rfl,aj,by omega,by omega⟩,⟨y,E,rfl,hy,by omega,by omega⟩,_,_,_,rfl⟩
 clear h2 aR aq aW aF bm aN a8 aE aS aM
 rintro s ⟨bd,aY,aM,h2,aR,aq,aW,aF,bm,aN,a8,aE,bN,bs,bq,aS⟩
 by_cases bR:x.neg=y.neg
 ·have lz:(x.neg==y.neg)=true:=by simpa using bR
  have ar:dZ x y=mk x.neg (X+Y) E:=by unfold dZ;rw[if_neg h0,if_neg h1,if_pos bR,←eN,←jv,←iV]
  have F2:=AE X Y
  have ls:=y1 (n:=X+Y) (by omega)
  simp (maxSteps:=2000000) only[↓al,ak,↓reduceIte,reduceCtorEq,Nat.reduceEqDiff,Nat.reduceLeDiff,Nat.reduceSub,Nat.reduceAdd,Int.reduceToNat,Nat.reducePow,Int.reducePow,Int.reduceLE,Int.reduceLT,IntKind.bits,ko,aI,cd,ar,bd,aY,aM,h2,aR,aq,aW,aF,bm,aN,a8,aE,aS,f87,rA,e1,f85,Jc,jo,b5,lz]
  exact⟨⟨_,_,rfl,c5 _,c5 _,by omega,by omega⟩,⟨_,_,_,rfl,ls,by omega,by omega⟩⟩
 have lz:(x.neg==y.neg)=false:=by simpa using bR
 refine bZ (fun s=>s.ag 9= .d (.ints .i64 (ao Y))∧s.ag 8= .d (.ints .i64 (ao X))∧s.ag 7= .d (.int .i64 E)∧s.ag 2= .box 2 0∧s.az 2=some ⟨false,false,.cells [.d (.bool x.neg),.d (.ints .i64 (ao x.m)),.d (.int .i64 x.e)]⟩∧s.ag 3= .box 3 0∧s.az 3=some ⟨false,false,.cells [.d (.bool y.neg),.d (.ints .i64 (ao y.m)),.d (.int .i64 y.e)]⟩∧s.ag 5= .box 5 0∧s.az 5=some ⟨false,false,.cells [.d (.bool x.neg),.d (.ints .i64 (ao x.m)),.d (.int .i64 x.e)]⟩∧s.ag 6= .box 6 0∧s.az 6=some ⟨false,false,.cells [.d (.bool y.neg),.d (.ints .i64 (ao y.m)),.d (.int .i64 y.e)]⟩∧s.ag 4= .box 4 0∧(∃bN bs bq,s.az 4=some ⟨false,false,.cells [bN,bs,bq]⟩)) ?_ ?_
 ·simp (maxSteps:=2000000) only[↓al,ak,↓reduceIte,reduceCtorEq,Nat.reduceEqDiff,Nat.reduceLeDiff,Nat.reduceSub,Nat.reduceAdd,Int.reduceToNat,Nat.reducePow,Int.reducePow,Int.reduceLE,Int.reduceLT,IntKind.bits,bd,aY,aM,h2,aR,aq,aW,aF,bm,aN,a8,aE,aS,lz]
  exact⟨_,_,_,rfl⟩
 clear h2 aR aq aW aF bm aN a8 aE aS aM aY bd
 rintro s ⟨bd,aY,aM,h2,aR,aq,aW,aF,bm,aN,a8,aE,bN,bs,bq,aS⟩
 have os:jX.own=false:=rfl
 have ps:jX.pre [.ints .i64 (ao X),.ints .i64 (ao Y)]:=⟨X,Y,rfl,by omega,by omega⟩
 have Mz:jX.pre [.ints .i64 (ao Y),.ints .i64 (ao X)]:=⟨Y,X,rfl,by omega,by omega⟩
 by_cases cN:Y≤X
 ·have ar:dZ x y=mk x.neg (X - Y) E:=by unfold dZ;rw[if_neg h0,if_neg h1,if_neg bR,←eN,←jv,←iV,if_pos cN]
  have ls:=y1 (n:=X - Y) (by have:=yU (show X - Y≤X by omega);omega)
  have rs:jX.res [.ints .i64 (ao X),.ints .i64 (ao Y)]= .fh [.ints .i64 (ao (X - Y)),.bool true]:=by simp only[jX,b5,if_neg (show¬X<Y by omega),aZ]
  simp (maxSteps:=2000000) only[↓al,ak,↓reduceIte,reduceCtorEq,Nat.reduceEqDiff,Nat.reduceLeDiff,Nat.reduceSub,Nat.reduceAdd,Int.reduceToNat,Nat.reducePow,Int.reducePow,Int.reduceLE,Int.reduceLT,IntKind.bits,ko,aI,cd,ar,bd,aY,aM,h2,aR,aq,aW,aF,bm,aN,a8,aE,aS,f87,rA,e1,f107,aei,os,ps,rs,b5]
  exact⟨_,_,_,rfl,ls,by omega,by omega⟩
 ·have ar:dZ x y=mk y.neg (Y - X) E:=by unfold dZ;rw[if_neg h0,if_neg h1,if_neg bR,←eN,←jv,←iV,if_neg cN]
  have ls:=y1 (n:=Y - X) (by have:=yU (show Y - X≤Y by omega);omega)
  have rs:jX.res [.ints .i64 (ao X),.ints .i64 (ao Y)]= .fh [.ints .i64 [],.bool false]:=by simp only[jX,b5,if_pos (show X<Y by omega)]
  have sU:jX.res [.ints .i64 (ao Y),.ints .i64 (ao X)]= .fh [.ints .i64 (ao (Y - X)),.bool true]:=by simp only[jX,b5,if_neg (show¬Y<X by omega),aZ]
  simp (maxSteps:=2000000) only[↓al,ak,↓reduceIte,reduceCtorEq,Nat.reduceEqDiff,Nat.reduceLeDiff,Nat.reduceSub,Nat.reduceAdd,Int.reduceToNat,Nat.reducePow,Int.reducePow,Int.reduceLE,Int.reduceLT,IntKind.bits,ko,aI,cd,ar,bd,aY,aM,h2,aR,aq,aW,aF,bm,aN,a8,aE,aS,f87,rA,e1,f107,aei,os,ps,Mz,rs,sU,b5]
  exact⟨_,_,_,rfl,ls,by omega,by omega⟩
def jI:bC where
 pre:=fun ds=>∃x y:a6,ds=[aI x,aI y]∧bO x∧bO y
 res:=fun ds=>match ds with
  |[p,q]=> .int .i64 (ej (eA p) (eA q))
  |_=> .nilp
theorem Fm (Γ:Env) (f67:Γ.fn 67=some lA) (Jf:Γ.mt 67=none) (f66:Γ.fn 66=some ko) (Jg:Γ.mt 66=none) (f58:Γ.fn 58=some pJ) (ND:Γ.mt 58=none)
 (ds:List D) (h:jI.pre ds):bT Γ Ur Us ds fun d=>d=jI.res ds:=by
 obtain⟨x,y,rfl,aj,hy⟩:=h
 simp (maxSteps:=2000000) only[↓al,ak,↓reduceIte,reduceCtorEq,Nat.reduceEqDiff,Nat.reduceLeDiff,Nat.reduceSub,Nat.reduceAdd,Int.reduceToNat,Nat.reducePow,Int.reducePow,Int.reduceLE,Int.reduceLT,IntKind.bits,Ur,Us,jI,aI,cd,f67,Jf,lA,f66,Jg,ko,f58,ND,pJ,ej]
 exact⟨⟨y,rfl,hy⟩,⟨x,dx y,rfl,aj,iJ hy⟩,⟨dZ x (dx y),rfl⟩⟩
def g1:bC where
 pre:=fun ds=>∃x y:a6,ds=[aI x,aI y]∧bO x∧bO y
 res:=fun ds=>match ds with
  |[p,q]=>aI (dZ (eA p) (eA q))
  |_=> .nilp
theorem Fo (Γ:Env) (f76:Γ.fn 76=some dT) (xa:Γ.mt 76=none) (f91:Γ.fn 91=some iB) (af3:Γ.mt 91=none)
 (f89:Γ.fn 89=some hY) (ao6:Γ.mt 89=none) (f93:Γ.fn 93=some lx) (af4:Γ.mt 93=none) (f92:Γ.fn 92=some fJ) (I1:Γ.mt 92=none)
 (ds:List D) (h:g1.pre ds):bT Γ ID IE ds fun d=>d=g1.res ds:=by
 obtain⟨x,y,rfl,aj,hy⟩:=h
 have ex:=kK aj
 have An:=kK hy
 have da:=hn aj
 have hK:=hn hy
 have az:=jc aj
 have WH:=jc hy
 by_cases h0:x.m=0
 ·have ar:dZ x y=y:=by unfold dZ;rw[if_pos h0]
  simp (maxSteps:=2000000) only[↓al,ak,↓reduceIte,reduceCtorEq,Nat.reduceEqDiff,Nat.reduceLeDiff,Nat.reduceSub,Nat.reduceAdd,Int.reduceToNat,Nat.reducePow,Int.reducePow,Int.reduceLE,Int.reduceLT,IntKind.bits,ID,IE,g1,aI,cd,I5 h0,ar]
 ·by_cases h1:y.m=0
  ·have ar:dZ x y=x:=by unfold dZ;rw[if_neg h0,if_pos h1]
   simp (maxSteps:=2000000) only[↓al,ak,↓reduceIte,reduceCtorEq,Nat.reduceEqDiff,Nat.reduceLeDiff,Nat.reduceSub,Nat.reduceAdd,Int.reduceToNat,Nat.reducePow,Int.reducePow,Int.reduceLE,Int.reduceLT,IntKind.bits,ID,IE,g1,aI,cd,z0 h0,I5 h1,ar]
  ·obtain⟨E,eN⟩:∃E,E=min x.e y.e:=⟨_,rfl⟩
   have jh:(if y.e<x.e then y.e else x.e)=E:=by split<;>omega
   obtain⟨X,jv⟩:∃X,X=x.m*2^(x.e - E).toNat:=⟨_,rfl⟩
   obtain⟨Y,iV⟩:∃Y,Y=y.m*2^(y.e - E).toNat:=⟨_,rfl⟩
   have arn:bp X≤200000:=by rw[jv,p2 h0];omega
   have ao5:bp Y≤200000:=by rw[iV,p2 h1];omega
   have aro:=fo X
   have arp:=fo Y
   rw[fU]
   unfold ID IE
   refine bZ (fun s=>s.ag 2= .box 2 0∧s.ag 3= .box 3 0∧s.ag 4= .box 4 0∧s.az 2=some ⟨false,false,.cells [.d (.bool x.neg),.d (.ints .i64 (ao x.m)),.d (.int .i64 x.e)]⟩∧s.az 3=some ⟨false,false,.cells [.d (.bool y.neg),.d (.ints .i64 (ao y.m)),.d (.int .i64 y.e)]⟩∧(∃bN bs bq,s.az 4=some ⟨false,false,.cells [bN,bs,bq]⟩)) ?_ ?_
   ·simp (maxSteps:=2000000) only[↓al,ak,↓reduceIte,reduceCtorEq,Nat.reduceEqDiff,Nat.reduceLeDiff,Nat.reduceSub,Nat.reduceAdd,Int.reduceToNat,Nat.reducePow,Int.reducePow,Int.reduceLE,Int.reduceLT,IntKind.bits,aI]
    exact⟨_,_,_,rfl⟩
   rintro s ⟨h2,aq,aE,aR,aW,bN,bs,bq,aS⟩
   refine bZ (fun s=>s.ag 2= .box 2 0∧s.ag 3= .box 3 0∧s.ag 4= .box 4 0∧s.az 2=some ⟨false,false,.cells [.d (.bool x.neg),.d (.ints .i64 (ao x.m)),.d (.int .i64 x.e)]⟩∧s.az 3=some ⟨false,false,.cells [.d (.bool y.neg),.d (.ints .i64 (ao y.m)),.d (.int .i64 y.e)]⟩∧(∃bN bs bq,s.az 4=some ⟨false,false,.cells [bN,bs,bq]⟩)) ?_ ?_
   ·simp (maxSteps:=2000000) only[↓al,ak,↓reduceIte,reduceCtorEq,Nat.reduceEqDiff,Nat.reduceLeDiff,Nat.reduceSub,Nat.reduceAdd,Int.reduceToNat,Nat.reducePow,Int.reducePow,Int.reduceLE,Int.reduceLT,IntKind.bits,h2,aq,aE,aR,aW,aS,z0 h0]
    exact⟨_,_,_,rfl⟩
   clear h2 aq aE aR aW aS
   rintro s ⟨h2,aq,aE,aR,aW,bN,bs,bq,aS⟩
   refine bZ (fun s=>s.ag 2= .box 2 0∧s.ag 3= .box 3 0∧s.ag 4= .box 4 0∧s.az 2=some ⟨false,false,.cells [.d (.bool x.neg),.d (.ints .i64 (ao x.m)),.d (.int .i64 x.e)]⟩∧s.az 3=some ⟨false,false,.cells [.d (.bool y.neg),.d (.ints .i64 (ao y.m)),.d (.int .i64 y.e)]⟩∧(∃bN bs bq,s.az 4=some ⟨false,false,.cells [bN,bs,bq]⟩)) ?_ ?_
   ·simp (maxSteps:=2000000) only[↓al,ak,↓reduceIte,reduceCtorEq,Nat.reduceEqDiff,Nat.reduceLeDiff,Nat.reduceSub,Nat.reduceAdd,Int.reduceToNat,Nat.reducePow,Int.reducePow,Int.reduceLE,Int.reduceLT,IntKind.bits,h2,aq,aE,aR,aW,aS,z0 h1]
    exact⟨_,_,_,rfl⟩
   clear h2 aq aE aR aW aS
   rintro s ⟨h2,aq,aE,aR,aW,bN,bs,bq,aS⟩
   refine bZ (fun s=>s.ag 5= .d (.int .i64 E)∧s.ag 2= .box 2 0∧s.ag 3= .box 3 0∧s.ag 4= .box 4 0∧s.az 2=some ⟨false,false,.cells [.d (.bool x.neg),.d (.ints .i64 (ao x.m)),.d (.int .i64 x.e)]⟩∧s.az 3=some ⟨false,false,.cells [.d (.bool y.neg),.d (.ints .i64 (ao y.m)),.d (.int .i64 y.e)]⟩∧(∃bN bs bq,s.az 4=some ⟨false,false,.cells [bN,bs,bq]⟩)) ?_ ?_
   ·simp (maxSteps:=2000000) only[↓al,ak,↓reduceIte,reduceCtorEq,Nat.reduceEqDiff,Nat.reduceLeDiff,Nat.reduceSub,Nat.reduceAdd,Int.reduceToNat,Nat.reducePow,Int.reducePow,Int.reduceLE,Int.reduceLT,IntKind.bits,h2,aq,aE,aR,aW,aS,jh]
    exact⟨_,_,_,rfl⟩
   clear h2 aq aE aR aW aS
   rintro s ⟨aF,h2,aq,aE,aR,aW,bN,bs,bq,aS⟩
   refine bZ (fun s=>s.ag 6= .d (.ints .i64 (ao X))∧s.ag 5= .d (.int .i64 E)∧s.ag 2= .box 2 0∧s.ag 3= .box 3 0∧s.ag 4= .box 4 0∧s.az 2=some ⟨false,false,.cells [.d (.bool x.neg),.d (.ints .i64 (ao x.m)),.d (.int .i64 x.e)]⟩∧s.az 3=some ⟨false,false,.cells [.d (.bool y.neg),.d (.ints .i64 (ao y.m)),.d (.int .i64 y.e)]⟩∧(∃bN bs bq,s.az 4=some ⟨false,false,.cells [bN,bs,bq]⟩)) ?_ ?_
   ·simp (maxSteps:=2000000) only[↓al,ak,↓reduceIte,reduceCtorEq,Nat.reduceEqDiff,Nat.reduceLeDiff,Nat.reduceSub,Nat.reduceAdd,Int.reduceToNat,Nat.reducePow,Int.reducePow,Int.reduceLE,Int.reduceLT,IntKind.bits,aF,h2,aq,aE,aR,aW,aS,f91,af3,iB,b5,←jv]
    repeat (refine And.intro (by first|omega|(simp only[aO];omega)|(simp only[aO]at*;omega)|(simp only[List.length_append,List.length_cons,List.length_nil,List.length_set,b4];omega)) ?_)
    exact⟨⟨_,_,rfl,c5 _,by omega,by omega⟩,_,_,_,rfl⟩
   clear aF h2 aq aE aR aW aS
   rintro s ⟨aN,aF,h2,aq,aE,aR,aW,bN,bs,bq,aS⟩
   refine bZ (fun s=>s.ag 7= .d (.ints .i64 (ao Y))∧s.ag 6= .d (.ints .i64 (ao X))∧s.ag 5= .d (.int .i64 E)∧s.ag 2= .box 2 0∧s.ag 3= .box 3 0∧s.ag 4= .box 4 0∧s.az 2=some ⟨false,false,.cells [.d (.bool x.neg),.d (.ints .i64 (ao x.m)),.d (.int .i64 x.e)]⟩∧s.az 3=some ⟨false,false,.cells [.d (.bool y.neg),.d (.ints .i64 (ao y.m)),.d (.int .i64 y.e)]⟩∧(∃bN bs bq,s.az 4=some ⟨false,false,.cells [bN,bs,bq]⟩)) ?_ ?_
   ·simp (maxSteps:=2000000) only[↓al,ak,↓reduceIte,reduceCtorEq,Nat.reduceEqDiff,Nat.reduceLeDiff,Nat.reduceSub,Nat.reduceAdd,Int.reduceToNat,Nat.reducePow,Int.reducePow,Int.reduceLE,Int.reduceLT,IntKind.bits,aN,aF,h2,aq,aE,aR,aW,aS,f91,af3,iB,b5,←iV]
    repeat (refine And.intro (by first|omega|(simp only[aO];omega)|(simp only[aO]at*;omega)|(simp only[List.length_append,List.length_cons,List.length_nil,List.length_set,b4];omega)) ?_)
    exact⟨⟨_,_,rfl,c5 _,by omega,by omega⟩,_,_,_,rfl⟩
   clear aN aF h2 aq aE aR aW aS
   rintro s ⟨aM,aN,aF,h2,aq,aE,aR,aW,bN,bs,bq,aS⟩
   by_cases bR:x.neg=y.neg
   ·have lz:(x.neg==y.neg)=true:=by simpa using bR
    have ar:dZ x y=mk x.neg (X+Y) E:=by unfold dZ;rw[if_neg h0,if_neg h1,if_pos bR,←eN,←jv,←iV]
    have F2:=AE X Y
    have ls:=y1 (n:=X+Y) (by omega)
    simp (maxSteps:=2000000) only[↓al,ak,↓reduceIte,reduceCtorEq,Nat.reduceEqDiff,Nat.reduceLeDiff,Nat.reduceSub,Nat.reduceAdd,Int.reduceToNat,Nat.reducePow,Int.reducePow,Int.reduceLE,Int.reduceLT,IntKind.bits,g1,aI,cd,ar,aM,aN,aF,h2,aq,aE,aR,aW,aS,f76,xa,dT,f89,ao6,hY,b5,lz]
    repeat (refine And.intro (by first|omega|(simp only[aO];omega)|(simp only[aO]at*;omega)|(simp only[List.length_append,List.length_cons,List.length_nil,List.length_set,b4];omega)) ?_)
    exact⟨⟨_,_,rfl,c5 _,c5 _,by omega,by omega⟩,⟨_,_,_,rfl,ls,by omega,by omega⟩⟩
   ·have lz:(x.neg==y.neg)=false:=by simpa using bR
    refine bZ (fun s=>s.ag 7= .d (.ints .i64 (ao Y))∧s.ag 6= .d (.ints .i64 (ao X))∧s.ag 5= .d (.int .i64 E)∧s.ag 2= .box 2 0∧s.ag 3= .box 3 0∧s.ag 4= .box 4 0∧s.az 2=some ⟨false,false,.cells [.d (.bool x.neg),.d (.ints .i64 (ao x.m)),.d (.int .i64 x.e)]⟩∧s.az 3=some ⟨false,false,.cells [.d (.bool y.neg),.d (.ints .i64 (ao y.m)),.d (.int .i64 y.e)]⟩∧(∃bN bs bq,s.az 4=some ⟨false,false,.cells [bN,bs,bq]⟩)) ?_ ?_
    ·simp (maxSteps:=2000000) only[↓al,ak,↓reduceIte,reduceCtorEq,Nat.reduceEqDiff,Nat.reduceLeDiff,Nat.reduceSub,Nat.reduceAdd,Int.reduceToNat,Nat.reducePow,Int.reducePow,Int.reduceLE,Int.reduceLT,IntKind.bits,aM,aN,aF,h2,aq,aE,aR,aW,aS,lz]
     exact⟨_,_,_,rfl⟩
    clear aM aN aF h2 aq aE aR aW aS
    rintro s ⟨aM,aN,aF,h2,aq,aE,aR,aW,bN,bs,bq,aS⟩
    have hN:fJ.pre [.ints .i64 (ao X),.ints .i64 (ao Y)]:=⟨_,_,rfl,⟨_,rfl⟩,⟨_,rfl⟩,by omega,by omega⟩
    have ao7:fJ.pre [.ints .i64 (ao Y),.ints .i64 (ao X)]:=⟨_,_,rfl,⟨_,rfl⟩,⟨_,rfl⟩,by omega,by omega⟩
    have Ap:fJ.own=false:=rfl
    have os:lx.own=false:=rfl
    have ps:lx.pre [.ints .i64 (ao X),.ints .i64 (ao Y)]:=hN
    have Mz:lx.pre [.ints .i64 (ao Y),.ints .i64 (ao X)]:=ao7
    by_cases cN:Y≤X
    ·have ar:dZ x y=mk x.neg (X - Y) E:=by unfold dZ;rw[if_neg h0,if_neg h1,if_neg bR,←eN,←jv,←iV,if_pos cN]
     have ls:=y1 (n:=X - Y) (by have:=yU (show X - Y≤X by omega);omega)
     have fL:¬X<Y:=by omega
     obtain⟨v,aC⟩:∃v,v=(if X<Y then (-1:Int)else if Y<X then 1 else 0):=⟨_,rfl⟩
     have Im:v≥0:=by rw[aC,if_neg fL];split<;>decide
     have rc:fJ.res [.ints .i64 (ao X),.ints .i64 (ao Y)]= .int .i64 v:=by rw[aC];simp only[fJ,b5]
     have rs:lx.res [.ints .i64 (ao X),.ints .i64 (ao Y)]= .fh [.ints .i64 (ao (X - Y)),.bool true]:=by simp only[lx,b5,if_neg fL,aZ]
     simp (maxSteps:=2000000) only[↓al,ak,↓reduceIte,reduceCtorEq,Nat.reduceEqDiff,Nat.reduceLeDiff,Nat.reduceSub,Nat.reduceAdd,Int.reduceToNat,Nat.reducePow,Int.reducePow,Int.reduceLE,Int.reduceLT,IntKind.bits,g1,aI,cd,ar,aM,aN,aF,h2,aq,aE,aR,aW,aS,f76,xa,dT,f93,af4,os,ps,rs,f92,I1,Ap,hN,rc,b5,Im]
     exact⟨_,_,_,rfl,ls,by omega,by omega⟩
    ·have ar:dZ x y=mk y.neg (Y - X) E:=by unfold dZ;rw[if_neg h0,if_neg h1,if_neg bR,←eN,←jv,←iV,if_neg cN]
     have ls:=y1 (n:=Y - X) (by have:=yU (show Y - X≤Y by omega);omega)
     have fL:X<Y:=by omega
     have rc:fJ.res [.ints .i64 (ao X),.ints .i64 (ao Y)]= .int .i64 (-1):=by simp only[fJ,b5,if_pos fL]
     have rs:lx.res [.ints .i64 (ao Y),.ints .i64 (ao X)]= .fh [.ints .i64 (ao (Y - X)),.bool true]:=by simp only[lx,b5,if_neg (show¬Y<X by omega),aZ]
     have Im:¬((-1:Int)≥0):=by decide
     simp (maxSteps:=2000000) only[↓al,ak,↓reduceIte,reduceCtorEq,Nat.reduceEqDiff,Nat.reduceLeDiff,Nat.reduceSub,Nat.reduceAdd,Int.reduceToNat,Nat.reducePow,Int.reducePow,Int.reduceLE,Int.reduceLT,IntKind.bits,g1,aI,cd,ar,aM,aN,aF,h2,aq,aE,aR,aW,aS,f76,xa,dT,f93,af4,os,Mz,rs,f92,I1,Ap,hN,rc,b5,Im]
     exact⟨_,_,_,rfl,ls,by omega,by omega⟩
def ef:bC where
 pre:=fun ds=>∃x y:a6,ds=[aI x,aI y]∧bO x∧bO y
 res:=fun ds=>match ds with
  |[p,q]=> .int .i64 (ej (eA p) (eA q))
  |_=> .nilp
theorem Lc {x:a6} (h:bO x):bO (dx x):=iJ h
theorem Jh (Γ:Env) (f48:Γ.fn 48=some gM) (Vv:Γ.mt 48=none) (f50:Γ.fn 50=some g1) (Vw:Γ.mt 50=none) (f62:Γ.fn 62=some qu) (ao8:Γ.mt 62=none)
 (ds:List D) (h:ef.pre ds):bT Γ Uh Ui ds fun d=>d=ef.res ds:=by
 obtain⟨x,y,rfl,aj,hy⟩:=h
 simp (maxSteps:=2000000) only[↓al,ak,↓reduceIte,reduceCtorEq,Nat.reduceEqDiff,Nat.reduceLeDiff,Nat.reduceSub,Nat.reduceAdd,Int.reduceToNat,Nat.reducePow,Int.reducePow,Int.reduceLE,Int.reduceLT,IntKind.bits,Uh,Ui,ef,aI,cd,f48,Vv,gM,f50,Vw,g1,f62,ao8,qu,ej]
 exact⟨⟨y,rfl⟩,⟨x,dx y,rfl,aj,Lc hy⟩,⟨dZ x (dx y),rfl⟩⟩
structure bP where
 lo:a6
 hi:a6
deriving DecidableEq
def aA (i:bP):D:= .agg [.bool i.lo.neg,aZ i.lo.m,.int .i64 i.lo.e,.bool i.hi.neg,aZ i.hi.m,.int .i64 i.hi.e]
def fe:D→bP
 | .agg [.bool a,.ints _ xs,.int _ e,.bool b,.ints _ aB,.int _ f]=>⟨⟨a,val xs,e⟩,⟨b,val aB,f⟩⟩
 |_=>⟨⟨false,0,0⟩,⟨false,0,0⟩⟩
theorem dq (x y:a6):fe (.agg [.bool x.neg,.ints .i64 (ao x.m),.int .i64 x.e,.bool y.neg,.ints .i64 (ao y.m),.int .i64 y.e])=⟨x,y⟩:=by
 simp only[fe,b5]
def hj (i:bP):Prop:=bO i.lo∧bO i.hi
def dJ (a b:bP):bP:=⟨dZ a.lo b.lo,dZ a.hi b.hi⟩
def dd (a:bP):bP:=⟨dx a.hi,dx a.lo⟩
def qb (a:bP):a6:=dZ a.hi (dx a.lo)
def xT (d:a6):bP:=⟨d,d⟩
def r7 (a b:bP):Bool:=decide (ej b.lo a.lo≤0) && decide (ej a.hi b.hi≤0)
def zq (i:bP) (d:a6):Bool:=r7 ⟨d,d⟩ i
def kM:bC where
 pre:=fun ds=>∃x y:bP,ds=[aA x,aA y]∧hj x∧hj y
 res:=fun ds=>match ds with
  |[p,q]=>aA (dJ (fe p) (fe q))
  |_=> .nilp
theorem Fp (Γ:Env) (f66:Γ.fn 66=some ko) (Jg:Γ.mt 66=none) (ds:List D) (h:kM.pre ds):bT Γ TM TN ds fun d=>d=kM.res ds:=by
 obtain⟨x,y,rfl,⟨eu,e5⟩,⟨g0,kN⟩⟩:=h
 simp (maxSteps:=2000000) only[↓al,ak,↓reduceIte,reduceCtorEq,Nat.reduceEqDiff,Nat.reduceLeDiff,Nat.reduceSub,Nat.reduceAdd,Int.reduceToNat,Nat.reducePow,Int.reducePow,Int.reduceLE,Int.reduceLT,IntKind.bits,TM,TN,kM,aA,dq,dJ,f66,Jg,ko,cd,aI]
 exact⟨⟨x.lo,y.lo,rfl,eu,g0⟩,⟨x.hi,y.hi,rfl,e5,kN⟩⟩
def jr:bC where
 pre:=fun ds=>∃x:bP,ds=[aA x]∧hj x
 res:=fun ds=>match ds with
  |[p]=>aA (dd (fe p))
  |_=> .nilp
theorem Fq (Γ:Env) (f67:Γ.fn 67=some lA) (Jf:Γ.mt 67=none) (ds:List D) (h:jr.pre ds):bT Γ TE TF ds fun d=>d=jr.res ds:=by
 obtain⟨x,rfl,eu,e5⟩:=h
 simp (maxSteps:=2000000) only[↓al,ak,↓reduceIte,reduceCtorEq,Nat.reduceEqDiff,Nat.reduceLeDiff,Nat.reduceSub,Nat.reduceAdd,Int.reduceToNat,Nat.reducePow,Int.reducePow,Int.reduceLE,Int.reduceLT,IntKind.bits,TE,TF,jr,aA,dq,dd,f67,Jf,lA,cd,aI]
 exact⟨⟨x.hi,rfl,e5⟩,⟨x.lo,rfl,eu⟩⟩
def vK:bC where
 pre:=fun ds=>∃x:bP,ds=[aA x]∧hj x
 res:=fun ds=>match ds with
  |[p]=>aI (qb (fe p))
  |_=> .nilp
theorem Fs (Γ:Env) (f67:Γ.fn 67=some lA) (Jf:Γ.mt 67=none) (f66:Γ.fn 66=some ko) (Jg:Γ.mt 66=none) (ds:List D) (h:vK.pre ds):bT Γ TA TB ds fun d=>d=vK.res ds:=by
 obtain⟨x,rfl,eu,e5⟩:=h
 simp (maxSteps:=2000000) only[↓al,ak,↓reduceIte,reduceCtorEq,Nat.reduceEqDiff,Nat.reduceLeDiff,Nat.reduceSub,Nat.reduceAdd,Int.reduceToNat,Nat.reducePow,Int.reducePow,Int.reduceLE,Int.reduceLT,IntKind.bits,TA,TB,vK,aA,dq,qb,f67,Jf,lA,f66,Jg,ko,cd,aI]
 exact⟨⟨x.lo,rfl,eu⟩,⟨x.hi,dx x.lo,rfl,e5,Lc eu⟩⟩
def vL:bC where
 pre:=fun ds=>∃x:bP,ds=[aA x]∧hj x
 res:=fun ds=>match ds with
  |[p]=>aI (qb (fe p))
  |_=> .nilp
theorem ao9 (Γ:Env) (f48:Γ.fn 48=some gM) (Vv:Γ.mt 48=none) (f50:Γ.fn 50=some g1) (Vw:Γ.mt 50=none) (ds:List D) (h:vL.pre ds):bT Γ TC TD ds fun d=>d=vL.res ds:=by
 obtain⟨x,rfl,eu,e5⟩:=h
 simp (maxSteps:=2000000) only[↓al,ak,↓reduceIte,reduceCtorEq,Nat.reduceEqDiff,Nat.reduceLeDiff,Nat.reduceSub,Nat.reduceAdd,Int.reduceToNat,Nat.reducePow,Int.reducePow,Int.reduceLE,Int.reduceLT,IntKind.bits,TC,TD,vL,aA,dq,qb,f48,Vv,gM,f50,Vw,g1,cd,aI]
 exact⟨⟨x.lo,rfl⟩,⟨x.hi,dx x.lo,rfl,e5,Lc eu⟩⟩
def sW:bC where
 pre:=fun ds=>∃x:a6,ds=[aI x]∧bO x
 res:=fun ds=>match ds with
  |[p]=>aA (xT (eA p))
  |_=> .nilp
theorem Ft (Γ:Env) (f64:Γ.fn 64=some hb) (m64:Γ.mt 64=none) (ds:List D) (h:sW.pre ds):bT Γ Tw Tx ds fun d=>d=sW.res ds:=by
 obtain⟨x,rfl,aj⟩:=h
 have aG:=Kh aj.1
 simp (maxSteps:=2000000) only[↓al,ak,↓reduceIte,reduceCtorEq,Nat.reduceEqDiff,Nat.reduceLeDiff,Nat.reduceSub,Nat.reduceAdd,Int.reduceToNat,Nat.reducePow,Int.reducePow,Int.reduceLE,Int.reduceLT,IntKind.bits,Tw,Tx,sW,aA,cd,xT,f64,m64,hb,aI,aG]
 exact⟨⟨x,0,rfl,aj,by omega,by omega⟩,⟨x,0,rfl,aj,by omega,by omega⟩⟩
def gN:bC where
 pre:=fun ds=>∃x:a6,ds=[aI x]
 res:=fun ds=>match ds with
  |[p]=>aA (xT (eA p))
  |_=> .nilp
theorem Fu (Γ:Env) (ds:List D) (h:gN.pre ds):bT Γ Ty Tz ds fun d=>d=gN.res ds:=by
 obtain⟨x,rfl⟩:=h
 simp (maxSteps:=2000000) only[↓al,ak,↓reduceIte,reduceCtorEq,Nat.reduceEqDiff,Nat.reduceLeDiff,Nat.reduceSub,Nat.reduceAdd,Int.reduceToNat,Nat.reducePow,Int.reducePow,Int.reduceLE,Int.reduceLT,IntKind.bits,Ty,Tz,gN,aA,cd,xT,aI]
def hr:bC where
 pre:=fun ds=>∃x y:bP,ds=[aA x,aA y]∧hj x∧hj y
 res:=fun ds=>match ds with
  |[p,q]=> .bool (decide (fe p=fe q))
  |_=> .nilp
theorem Fv (Γ:Env) (f24:Γ.fn 24=some eS) (af5:Γ.mt 24=none) (ds:List D) (h:hr.pre ds):bT Γ M5 M6 ds fun d=>d=hr.res ds:=by
 obtain⟨x,y,rfl,⟨eu,e5⟩,⟨g0,kN⟩⟩:=h
 by_cases c:x.lo=y.lo
 ·have ar:decide (x=y)=decide (x.hi=y.hi):=by
   rw[decide_eq_decide];cases x;cases y;simp_all
  have au:=decide_eq_true c
  simp (maxSteps:=2000000) only[↓al,ak,↓reduceIte,reduceCtorEq,Nat.reduceEqDiff,Nat.reduceLeDiff,Nat.reduceSub,Nat.reduceAdd,Int.reduceToNat,Nat.reducePow,Int.reducePow,Int.reduceLE,Int.reduceLT,IntKind.bits,M5,M6,hr,aA,dq,f24,af5,eS,cd,aI,au,ar]
  exact⟨⟨x.lo,y.lo,rfl,eu,g0⟩,⟨x.hi,y.hi,rfl,e5,kN⟩⟩
 ·have ar:decide (x=y)=false:=decide_eq_false fun e=>c (by rw[e])
  have au:=decide_eq_false c
  simp (maxSteps:=2000000) only[↓al,ak,↓reduceIte,reduceCtorEq,Nat.reduceEqDiff,Nat.reduceLeDiff,Nat.reduceSub,Nat.reduceAdd,Int.reduceToNat,Nat.reducePow,Int.reducePow,Int.reduceLE,Int.reduceLT,IntKind.bits,M5,M6,hr,aA,dq,f24,af5,eS,cd,aI,au,ar]
  exact⟨x.lo,y.lo,rfl,eu,g0⟩
def iw (b:Bool) (xs:List Int) (e:Int):Bool:=sl xs && (decide (xs.length≤60) && (if xs.length=0 then !b && decide (e=0)else decide (xs.getD 0 0 % 2=1) && (decide (-6000≤e) && decide (e≤6000))))
theorem PB {xs:List Int} (h:sl xs=true):ca xs:=fun x aj=>by
 unfold sl at h
 rw[Bool.and_eq_true,List.all_eq_true]at h
 have:=h.1 x aj
 simpa using this
def hc:bC where
 pre:=fun ds=>∃(b:Bool) (xs:List Int) (e:Int),ds=[.agg [.bool b,.ints .i64 xs,.int .i64 e]]∧xs.length≤100000
 res:=fun ds=>match ds with
  |[.agg [.bool b,.ints _ xs,.int _ e]]=> .bool (iw b xs e)
  |_=> .nilp
theorem Ji (Γ:Env) (f96:Γ.fn 96=some qt) (z7:Γ.mt 96=none) (ds:List D) (h:hc.pre ds):bT Γ w7 w8 ds fun d=>d=hc.res ds:=by
 obtain⟨b,xs,e,rfl,aJ⟩:=h
 have on:qt.own=false:=rfl
 have v7:qt.pre [.ints .i64 xs]:=⟨xs,rfl,aJ⟩
 cases aQ:sl xs with
 |false=>
  have yF:qt.res [.ints .i64 xs]= .bool false:=by simp only[qt,aQ]
  have ar:iw b xs e=false:=by unfold iw;rw[aQ,Bool.false_and]
  simp (maxSteps:=2000000) only[↓al,ak,↓reduceIte,reduceCtorEq,Nat.reduceEqDiff,Nat.reduceLeDiff,Nat.reduceSub,Nat.reduceAdd,Int.reduceToNat,Nat.reducePow,Int.reducePow,Int.reduceLE,Int.reduceLT,IntKind.bits,w7,w8,hc,f96,z7,on,v7,yF,ar]
 |true=>
  have yF:qt.res [.ints .i64 xs]= .bool true:=by simp only[qt,aQ]
  have dO:=PB aQ
  by_cases bR:(xs.length:Int)>60
  ·have ar:iw b xs e=false:=by unfold iw;rw[decide_eq_false (show¬xs.length≤60 by omega),Bool.false_and,Bool.and_false]
   simp (maxSteps:=2000000) only[↓al,ak,↓reduceIte,reduceCtorEq,Nat.reduceEqDiff,Nat.reduceLeDiff,Nat.reduceSub,Nat.reduceAdd,Int.reduceToNat,Nat.reducePow,Int.reducePow,Int.reduceLE,Int.reduceLT,IntKind.bits,w7,w8,hc,f96,z7,on,v7,yF,ar,bR]
  ·have d1:decide (xs.length≤60)=true:=decide_eq_true (by omega)
   by_cases cN:xs=[]
   ·subst cN
    have ar:iw b [] e=(!b && decide (e=0)):=by unfold iw;rw[aQ,d1];rfl
    cases b with
    |true=>simp (maxSteps:=2000000) only[↓al,ak,↓reduceIte,reduceCtorEq,Nat.reduceEqDiff,Nat.reduceLeDiff,Nat.reduceSub,Nat.reduceAdd,Int.reduceToNat,Nat.reducePow,Int.reducePow,Int.reduceLE,Int.reduceLT,IntKind.bits,w7,w8,hc,f96,z7,on,v7,yF,ar,bR,List.length_nil,Int.natCast_zero,beq_self_eq_true,Int.reduceGT]
    |false=>
     cases he:(e==0)with
     |true=>
      have d2:decide (e=0)=true:=decide_eq_true (by simpa using he)
      simp (maxSteps:=2000000) only[↓al,ak,↓reduceIte,reduceCtorEq,Nat.reduceEqDiff,Nat.reduceLeDiff,Nat.reduceSub,Nat.reduceAdd,Int.reduceToNat,Nat.reducePow,Int.reducePow,Int.reduceLE,Int.reduceLT,IntKind.bits,w7,w8,hc,f96,z7,on,v7,yF,ar,bR,List.length_nil,Int.natCast_zero,beq_self_eq_true,Int.reduceGT,he,d2]
     |false=>
      have d2:decide (e=0)=false:=decide_eq_false (by simpa using he)
      simp (maxSteps:=2000000) only[↓al,ak,↓reduceIte,reduceCtorEq,Nat.reduceEqDiff,Nat.reduceLeDiff,Nat.reduceSub,Nat.reduceAdd,Int.reduceToNat,Nat.reducePow,Int.reducePow,Int.reduceLE,Int.reduceLT,IntKind.bits,w7,w8,hc,f96,z7,on,v7,yF,ar,bR,List.length_nil,Int.natCast_zero,beq_self_eq_true,Int.reduceGT,he,d2]
   ·have a1:=List.length_pos_iff.2 cN
    have w9:((xs.length:Int)==0)=false:=beq_false_of_ne (by omega)
    have ar:iw b xs e=(decide (xs.getD 0 0 % 2=1) && (decide (-6000≤e) && decide (e≤6000))):=by unfold iw;rw[aQ,d1,if_neg (by omega)];rfl
    have h0:=dO.getD 0
    have hm:(xs.getD 0 0).tmod 2=xs.getD 0 0 % 2:=Int.tmod_eq_emod_of_nonneg h0.1
    have cm:(0:Int)<xs.length:=by omega
    cases bu:(xs.getD 0 0 % 2==1)with
    |false=>
     have d2:decide (xs.getD 0 0 % 2=1)=false:=decide_eq_false (by simpa using bu)
     simp (maxSteps:=2000000) only[↓al,ak,↓reduceIte,reduceCtorEq,Nat.reduceEqDiff,Nat.reduceLeDiff,Nat.reduceSub,Nat.reduceAdd,Int.reduceToNat,Nat.reducePow,Int.reducePow,Int.reduceLE,Int.reduceLT,IntKind.bits,w7,w8,hc,f96,z7,on,v7,yF,ar,bR,w9,hm,cm,a1,bu,d2]
     first|done|decide|omega
    |true=>
     have d2:decide (xs.getD 0 0 % 2=1)=true:=decide_eq_true (by simpa using bu)
     by_cases fL:e≥-6000
     ·have Vx: -6000≤e:=fL
      simp (maxSteps:=2000000) only[↓al,ak,↓reduceIte,reduceCtorEq,Nat.reduceEqDiff,Nat.reduceLeDiff,Nat.reduceSub,Nat.reduceAdd,Int.reduceToNat,Nat.reducePow,Int.reducePow,Int.reduceLE,Int.reduceLT,IntKind.bits,w7,w8,hc,f96,z7,on,v7,yF,ar,bR,w9,hm,cm,a1,bu,d2,fL,Vx]
      first|done|decide|omega
     ·have Vx:¬-6000≤e:=fL
      simp (maxSteps:=2000000) only[↓al,ak,↓reduceIte,reduceCtorEq,Nat.reduceEqDiff,Nat.reduceLeDiff,Nat.reduceSub,Nat.reduceAdd,Int.reduceToNat,Nat.reducePow,Int.reducePow,Int.reduceLE,Int.reduceLT,IntKind.bits,w7,w8,hc,f96,z7,on,v7,yF,ar,bR,w9,hm,cm,a1,bu,d2,fL,Vx]
      first|done|decide|omega
def q6 (b:Bool) (xs:List Int) (e:Int) (c:Bool) (aB:List Int) (f:Int):Bool:=
 iw b xs e && (iw c aB f && decide (ej ⟨b,val xs,e⟩ ⟨c,val aB,f⟩≤0))
theorem ais {xs:List Int} (h:sl xs=true):ao (val xs)=xs:=by
 refine Pa (PB h) fun x aj=> ?_
 unfold sl at h
 simp only[Bool.and_eq_true,Bool.or_eq_true,decide_eq_true_eq]at h
 rcases h.2.2 with h0|h0
 ·rw[List.eq_nil_of_length_eq_zero h0]at aj;cases aj
 ·rw[List.getLast?_eq_getElem?]at aj
  rw[List.getD_eq_getElem?_getD,aj]at h0
  exact h0
theorem PX {b:Bool} {xs:List Int} {e:Int} (h:iw b xs e=true):ao (val xs)=xs∧bO ⟨b,val xs,e⟩:=by
 unfold iw at h
 simp only[Bool.and_eq_true,decide_eq_true_eq]at h
 obtain⟨h1,h2,aq⟩:=h
 have aJ:=ais h1
 refine⟨aJ,?_⟩
 by_cases h0:xs.length=0
 ·rw[if_pos h0]at aq
  have aj:=List.eq_nil_of_length_eq_zero h0
  subst aj
  simp only[Bool.and_eq_true,Bool.not_eq_true',decide_eq_true_eq]at aq
  refine⟨⟨fun _=>aq,fun h=>absurd rfl h⟩,fun h=>absurd rfl h⟩
 ·rw[if_neg h0]at aq
  simp only[Bool.and_eq_true,decide_eq_true_eq]at aq
  have dO:=PB h1
  have aL:=dO.getD 0
  have aC:=r5 xs 0
  rw[List.drop_zero]at aC
  have aw:=Ay (val xs)
  rw[aJ]at aw
  have ana:val xs % 2=1:=by omega
  refine⟨⟨fun h=> ?_,fun _=>ana⟩,fun _=> ?_⟩
  ·simp only at h;omega
  ·simp only
   omega
def hZ:bC where
 pre:=fun ds=>∃(b:Bool) (xs:List Int) (e:Int) (c:Bool) (aB:List Int) (f:Int),ds=[.agg [.bool b,.ints .i64 xs,.int .i64 e,.bool c,.ints .i64 aB,.int .i64 f]]∧xs.length≤100000∧aB.length≤100000
 res:=fun ds=>match ds with
  |[.agg [.bool b,.ints _ xs,.int _ e,.bool c,.ints _ aB,.int _ f]]=> .bool (q6 b xs e c aB f)
  |_=> .nilp
theorem Vy (Γ:Env) (f55:Γ.fn 55=some hc) (z8:Γ.mt 55=none) (f47:Γ.fn 47=some ef) (apa:Γ.mt 47=none) (ds:List D) (h:hZ.pre ds):bT Γ Iy Iz ds fun d=>d=hZ.res ds:=by
 obtain⟨b,xs,e,c,aB,f,rfl,gZ,fi⟩:=h
 have v3:hc.own=false:=rfl
 have df:ef.own=false:=rfl
 have p1:hc.pre [.agg [.bool b,.ints .i64 xs,.int .i64 e]]:=⟨b,xs,e,rfl,gZ⟩
 have cU:hc.pre [.agg [.bool c,.ints .i64 aB,.int .i64 f]]:=⟨c,aB,f,rfl,fi⟩
 have bX:hc.res [.agg [.bool b,.ints .i64 xs,.int .i64 e]]= .bool (iw b xs e):=rfl
 have ch:hc.res [.agg [.bool c,.ints .i64 aB,.int .i64 f]]= .bool (iw c aB f):=rfl
 cases h1:iw b xs e with
 |false=>
  rw[h1]at bX
  have ar:q6 b xs e c aB f=false:=by unfold q6;rw[h1,Bool.false_and]
  simp (maxSteps:=2000000) only[↓al,ak,↓reduceIte,reduceCtorEq,Nat.reduceEqDiff,Nat.reduceLeDiff,Nat.reduceSub,Nat.reduceAdd,Int.reduceToNat,Nat.reducePow,Int.reducePow,Int.reduceLE,Int.reduceLT,IntKind.bits,Iy,Iz,hZ,f55,z8,v3,p1,bX,ar]
 |true=>
  rw[h1]at bX
  cases h2:iw c aB f with
  |false=>
   rw[h2]at ch
   have ar:q6 b xs e c aB f=false:=by unfold q6;rw[h2,Bool.false_and,Bool.and_false]
   simp (maxSteps:=2000000) only[↓al,ak,↓reduceIte,reduceCtorEq,Nat.reduceEqDiff,Nat.reduceLeDiff,Nat.reduceSub,Nat.reduceAdd,Int.reduceToNat,Nat.reducePow,Int.reducePow,Int.reduceLE,Int.reduceLT,IntKind.bits,Iy,Iz,hZ,f55,z8,v3,p1,bX,cU,ch,ar]
  |true=>
   rw[h2]at ch
   obtain⟨dw,b8⟩:=PX h1
   obtain⟨eK,cL⟩:=PX h2
   have gT:ef.pre [.agg [.bool b,.ints .i64 xs,.int .i64 e],.agg [.bool c,.ints .i64 aB,.int .i64 f]]:=⟨⟨b,val xs,e⟩,⟨c,val aB,f⟩,by simp only[aI,aZ,dw,eK],b8,cL⟩
   have gS:ef.res [.agg [.bool b,.ints .i64 xs,.int .i64 e],.agg [.bool c,.ints .i64 aB,.int .i64 f]]= .int .i64 (ej ⟨b,val xs,e⟩ ⟨c,val aB,f⟩):=rfl
   have ar:q6 b xs e c aB f=decide (ej ⟨b,val xs,e⟩ ⟨c,val aB,f⟩≤0):=by unfold q6;rw[h1,h2,Bool.true_and,Bool.true_and]
   simp (maxSteps:=2000000) only[↓al,ak,↓reduceIte,reduceCtorEq,Nat.reduceEqDiff,Nat.reduceLeDiff,Nat.reduceSub,Nat.reduceAdd,Int.reduceToNat,Nat.reducePow,Int.reducePow,Int.reduceLE,Int.reduceLT,IntKind.bits,Iy,Iz,hZ,f55,z8,f47,apa,v3,df,p1,bX,cU,ch,gT,gS,ar]
def BA (up neg:Bool) (xs:List Int):List Int:=if up=neg then xs else ao (val xs+1)
def pB:hg where
 pre:=fun bg cs=>∃(up neg:Bool) (m:Nat) (aB:List Int) (e:Int),bg=[.d (.ints .i64 (ao m)),.box b0 0,.box (b0+1) 0]∧cs=[.cells [.d (.bool up)],.cells [.d (.bool neg),.d (.ints .i64 aB),.d (.int .i64 e)]]∧(ao m).length≤20000
 res:=fun bg cs=>match bg,cs with
  |[.d (.ints _ xs),_,_],[.cells [.d (.bool up)],.cells [.d (.bool neg),_,_]]=> .ints .i64 (BA up neg xs)
  |_,_=> .nilp
 out:=fun _ cs=>cs
theorem En (Γ:Env) (f86:Γ.fn 86=some iN) (Vz:Γ.mt 86=none) (f85:Γ.fn 85=some jo) (Jc:Γ.mt 85=none) (bg:List ai) (cs:List BC) (h:pB.pre bg cs):vk Γ L1 L2 bg cs fun d cs'=>d=pB.res bg cs∧cs'=pB.out bg cs:=by
 obtain⟨up,neg,m,aB,e,rfl,rfl,aJ⟩:=h
 cases au:(up==neg)with
 |true=>
  have ar:BA up neg (ao m)=ao m:=by unfold BA;rw[if_pos (by simpa using au)]
  simp (maxSteps:=2000000) only[↓al,ak,↓reduceIte,reduceCtorEq,Nat.reduceEqDiff,Nat.reduceLeDiff,Nat.reduceSub,Nat.reduceAdd,Int.reduceToNat,Nat.reducePow,Int.reducePow,Int.reduceLE,Int.reduceLT,IntKind.bits,b0,Nat.reduceBneDiff,Nat.reduceBeqDiff,Nat.reduceLT,List.flatMap_cons,List.flatMap_nil,List.append_nil,List.nil_append,List.cons_append,List.filter_cons,List.filter_nil,List.contains_cons,List.contains_nil,bne_self_eq_false,beq_self_eq_true,List.map_cons,List.map_nil,L1,L2,pB,ar,au]
 |false=>
  have ar:BA up neg (ao m)=ao (m+1):=by unfold BA;rw[if_neg (by simpa using au),b5]
  have h1:(1:Int).toNat=1:=rfl
  have c7:ao 1=[1]:=by decide+kernel
  simp (maxSteps:=2000000) only[↓al,ak,↓reduceIte,reduceCtorEq,Nat.reduceEqDiff,Nat.reduceLeDiff,Nat.reduceSub,Nat.reduceAdd,Int.reduceToNat,Nat.reducePow,Int.reducePow,Int.reduceLE,Int.reduceLT,IntKind.bits,b0,Nat.reduceBneDiff,Nat.reduceBeqDiff,Nat.reduceLT,List.flatMap_cons,List.flatMap_nil,List.append_nil,List.nil_append,List.cons_append,List.filter_cons,List.filter_nil,List.contains_cons,List.contains_nil,bne_self_eq_false,beq_self_eq_true,List.map_cons,List.map_nil,L1,L2,pB,ar,au,f86,Vz,iN,f85,Jc,jo,b5,h1]
  refine⟨⟨1,rfl,by simp only[aO];omega⟩,⟨_,_,rfl,c5 _,c5 _,aJ,?_⟩⟩
  rw[c7];decide
def pK:bC where
 pre:=fun ds=>∃(x:a6) (n:Int) (up:Bool),ds=[aI x,.int .i64 n,.bool up]∧bO x∧0≤n∧n≤100000
 res:=fun ds=>match ds with
  |[p,.int _ n,.bool up]=>aI (gy (eA p) n up)
  |_=> .nilp
theorem Fw (Γ:Env) (f99:Γ.fn 99=some jG) (B8:Γ.mt 99=none) (f64:Γ.fn 64=some hb) (m64:Γ.mt 64=none)
 (f84:Γ.fn 84=some jH) (Vs:Γ.mt 84=none) (anb:Γ.mt 110=some pB) (f87:Γ.fn 87=some e1) (rA:Γ.mt 87=none)
 (ds:List D) (h:pK.pre ds):bT Γ Nj Nk ds fun d=>d=pK.res ds:=by
 obtain⟨x,n,up,rfl,aj,dS,jm⟩:=h
 have ex:=kK aj
 have da:=hn aj
 have az:=jc aj
 by_cases af:(bp x.m:Int) - n≤0
 ·have ar:gy x n up=x:=by unfold gy;rw[if_pos af]
  have arq:hb.own=false:=rfl
  have v9:hb.pre [.agg [.bool x.neg,.ints .i64 (ao x.m),.int .i64 x.e],.int .i64 0]:=⟨x,0,rfl,aj,by omega,by omega⟩
  have wc:hb.res [.agg [.bool x.neg,.ints .i64 (ao x.m),.int .i64 x.e],.int .i64 0]= .agg [.bool x.neg,.ints .i64 (ao x.m),.int .i64 x.e]:=by
   simp only[hb,cd,Kh aj.1,aI,aZ]
  have ars:jG.own=false:=rfl
  have yG:jG.pre [.ints .i64 (ao x.m)]:=⟨x.m,rfl,by omega⟩
  have yH:jG.res [.ints .i64 (ao x.m)]= .int .i64 (bp x.m):=by simp only[jG,b5]
  rw[fU]
  unfold Nj Nk
  refine bZ (fun s=>s.ag 1= .d (.int .i64 n)∧s.ag 3= .box 3 0∧s.az 3=some ⟨false,false,.cells [.d (.bool x.neg),.d (.ints .i64 (ao x.m)),.d (.int .i64 x.e)]⟩∧s.ag 6= .box 6 0∧(∃bN bs bq,s.az 6=some ⟨false,false,.cells [bN,bs,bq]⟩)) ?_ ?_
  ·simp (maxSteps:=2000000) only[↓al,ak,↓reduceIte,reduceCtorEq,Nat.reduceEqDiff,Nat.reduceLeDiff,Nat.reduceSub,Nat.reduceAdd,Int.reduceToNat,Nat.reducePow,Int.reducePow,Int.reduceLE,Int.reduceLT,IntKind.bits,aI]
   exact⟨_,_,_,rfl⟩
  rintro s ⟨h1,aq,aW,aN,bN,bs,bq,a8⟩
  refine bZ (fun s=>s.ag 7= .d (.int .i64 ((bp x.m:Int) - n))∧s.ag 3= .box 3 0∧s.az 3=some ⟨false,false,.cells [.d (.bool x.neg),.d (.ints .i64 (ao x.m)),.d (.int .i64 x.e)]⟩∧s.ag 6= .box 6 0∧(∃bN bs bq,s.az 6=some ⟨false,false,.cells [bN,bs,bq]⟩)) ?_ ?_
  ·simp (maxSteps:=2000000) only[↓al,ak,↓reduceIte,reduceCtorEq,Nat.reduceEqDiff,Nat.reduceLeDiff,Nat.reduceSub,Nat.reduceAdd,Int.reduceToNat,Nat.reducePow,Int.reducePow,Int.reduceLE,Int.reduceLT,IntKind.bits,h1,aq,aW,aN,a8,f99,B8,ars,yG,yH]
   repeat (refine And.intro (by first|omega|(simp only[aO];omega)|(simp only[aO]at*;omega)|(simp only[List.length_append,List.length_cons,List.length_nil,List.length_set,b4];omega)) ?_)
   exact⟨_,_,_,rfl⟩
  clear h1 aq aW aN a8
  rintro s ⟨aM,aq,aW,aN,bN,bs,bq,a8⟩
  simp (maxSteps:=2000000) only[↓al,ak,↓reduceIte,reduceCtorEq,Nat.reduceEqDiff,Nat.reduceLeDiff,Nat.reduceSub,Nat.reduceAdd,Int.reduceToNat,Nat.reducePow,Int.reducePow,Int.reduceLE,Int.reduceLT,IntKind.bits,pK,aI,cd,ar,aM,aq,aW,aN,a8,af,f64,m64,arq,v9,wc]
 ·obtain⟨k,qn⟩:∃k:Nat,(bp x.m:Int) - n=k:=⟨((bp x.m:Int) - n).toNat,by omega⟩
  have cn:¬(k:Int)≤0:=by omega
  obtain⟨M,cJ⟩:∃M,M=x.m / 2^k:=⟨_,rfl⟩
  have aG:=KX x.m k
  rw[←cJ]at aG
  have JK:=fo M
  have ug:jH.res [.ints .i64 (ao x.m),.int .i64 k]= .ints .i64 (ao M):=by simp only[jH,b5,Int.toNat_natCast,←cJ,aZ]
  have z6:jH.pre [.ints .i64 (ao x.m),.int .i64 k]:=⟨_,_,rfl,c5 _,by omega,by simp only[aO];omega⟩
  have NC:jH.own=false:=rfl
  obtain⟨kZ,sX⟩:∃kZ,kZ=M+(if up=x.neg then 0 else 1):=⟨_,rfl⟩
  have apb:bp kZ≤bp M+2:=by
   have:=AE M (if up=x.neg then 0 else 1)
   have h1:bp (if up=x.neg then 0 else 1)≤1:=by split<;>decide
   rw[←sX]at this
   omega
  have apc:=fo kZ
  have au:BA up x.neg (ao M)=ao kZ:=by
   unfold BA
   rw[sX,b5]
   split<;>rfl
  have ar:gy x n up=mk x.neg kZ (x.e+k):=by
   unfold gy
   rw[if_neg af,qn,Int.toNat_natCast,←cJ,←sX]
  rw[fU]
  unfold Nj Nk
  refine bZ (fun s=>s.ag 1= .d (.int .i64 n)∧s.ag 3= .box 3 0∧s.az 3=some ⟨false,false,.cells [.d (.bool x.neg),.d (.ints .i64 (ao x.m)),.d (.int .i64 x.e)]⟩∧s.ag 5= .box 5 0∧s.az 5=some ⟨false,false,.cells [.d (.bool up)]⟩∧s.ag 6= .box 6 0∧(∃bN bs bq,s.az 6=some ⟨false,false,.cells [bN,bs,bq]⟩)) ?_ ?_
  ·simp (maxSteps:=2000000) only[↓al,ak,↓reduceIte,reduceCtorEq,Nat.reduceEqDiff,Nat.reduceLeDiff,Nat.reduceSub,Nat.reduceAdd,Int.reduceToNat,Nat.reducePow,Int.reducePow,Int.reduceLE,Int.reduceLT,IntKind.bits,aI]
   exact⟨_,_,_,rfl⟩
  rintro s ⟨h1,aq,aW,aF,bm,aN,bN,bs,bq,a8⟩
  refine bZ (fun s=>s.ag 7= .d (.int .i64 k)∧s.ag 3= .box 3 0∧s.az 3=some ⟨false,false,.cells [.d (.bool x.neg),.d (.ints .i64 (ao x.m)),.d (.int .i64 x.e)]⟩∧s.ag 5= .box 5 0∧s.az 5=some ⟨false,false,.cells [.d (.bool up)]⟩∧s.ag 6= .box 6 0∧(∃bN bs bq,s.az 6=some ⟨false,false,.cells [bN,bs,bq]⟩)) ?_ ?_
  ·simp (maxSteps:=2000000) only[↓al,ak,↓reduceIte,reduceCtorEq,Nat.reduceEqDiff,Nat.reduceLeDiff,Nat.reduceSub,Nat.reduceAdd,Int.reduceToNat,Nat.reducePow,Int.reducePow,Int.reduceLE,Int.reduceLT,IntKind.bits,h1,aq,aW,aF,bm,aN,a8,f99,B8,jG,b5,qn]
   refine⟨⟨x.m,rfl,by omega⟩,?_⟩
   repeat (refine And.intro (by first|omega|(simp only[aO];omega)|(simp only[aO]at*;omega)|(simp only[List.length_append,List.length_cons,List.length_nil,List.length_set,b4];omega)) ?_)
   exact⟨_,_,_,rfl⟩
  clear h1 aq aW aF bm aN a8
  rintro s ⟨aM,aq,aW,aF,bm,aN,bN,bs,bq,a8⟩
  refine bZ (fun s=>s.ag 7= .d (.int .i64 k)∧s.ag 3= .box 3 0∧s.az 3=some ⟨false,false,.cells [.d (.bool x.neg),.d (.ints .i64 (ao x.m)),.d (.int .i64 x.e)]⟩∧s.ag 5= .box 5 0∧s.az 5=some ⟨false,false,.cells [.d (.bool up)]⟩∧s.ag 6= .box 6 0∧(∃bN bs bq,s.az 6=some ⟨false,false,.cells [bN,bs,bq]⟩)) ?_ ?_
  ·simp (maxSteps:=2000000) only[↓al,ak,↓reduceIte,reduceCtorEq,Nat.reduceEqDiff,Nat.reduceLeDiff,Nat.reduceSub,Nat.reduceAdd,Int.reduceToNat,Nat.reducePow,Int.reducePow,Int.reduceLE,Int.reduceLT,IntKind.bits,aM,aq,aW,aF,bm,aN,a8,cn]
   exact⟨_,_,_,rfl⟩
  clear aM aq aW aF bm aN a8
  rintro s ⟨aM,aq,aW,aF,bm,aN,bN,bs,bq,a8⟩
  refine bZ (fun s=>s.ag 8= .dr 110 [] [.box 5 0,.box 3 0]∧s.ag 7= .d (.int .i64 k)∧s.ag 3= .box 3 0∧s.az 3=some ⟨false,false,.cells [.d (.bool x.neg),.d (.ints .i64 (ao x.m)),.d (.int .i64 x.e)]⟩∧s.ag 5= .box 5 0∧s.az 5=some ⟨false,false,.cells [.d (.bool up)]⟩∧s.ag 6= .box 6 0∧(∃bN bs bq,s.az 6=some ⟨false,false,.cells [bN,bs,bq]⟩)) ?_ ?_
  ·simp (maxSteps:=2000000) only[↓al,ak,↓reduceIte,reduceCtorEq,Nat.reduceEqDiff,Nat.reduceLeDiff,Nat.reduceSub,Nat.reduceAdd,Int.reduceToNat,Nat.reducePow,Int.reducePow,Int.reduceLE,Int.reduceLT,IntKind.bits,aM,aq,aW,aF,bm,aN,a8,cn]
   exact⟨_,_,_,rfl⟩
  clear aM aq aW aF bm aN a8
  rintro s ⟨aY,aM,aq,aW,aF,bm,aN,bN,bs,bq,a8⟩
  have apd:pB.pre [.d (.ints .i64 (ao M)),.box 1000000 0,.box 1000001 0] [.cells [.d (.bool up)],.cells [.d (.bool x.neg),.d (.ints .i64 (ao x.m)),.d (.int .i64 x.e)]]:=⟨up,x.neg,M,_,_,rfl,rfl,by omega⟩
  have ape:∀bg cs,pB.out bg cs=cs:=fun _ _=>rfl
  have apf:pB.res [.d (.ints .i64 (ao M)),.box 1000000 0,.box 1000001 0] [.cells [.d (.bool up)],.cells [.d (.bool x.neg),.d (.ints .i64 (ao x.m)),.d (.int .i64 x.e)]]= .ints .i64 (ao kZ):=by simp only[pB,au]
  have apg:e1.own=false:=rfl
  have yi:e1.pre [.bool x.neg,.ints .i64 (ao kZ),.int .i64 (x.e+k)]:=⟨_,_,_,rfl,by omega,by omega,by omega⟩
  have yj:e1.res [.bool x.neg,.ints .i64 (ao kZ),.int .i64 (x.e+k)]=aI (mk x.neg kZ (x.e+k)):=by simp only[e1,b5]
  simp (maxSteps:=2000000) only[↓al,ak,↓reduceIte,reduceCtorEq,Nat.reduceEqDiff,Nat.reduceLeDiff,Nat.reduceSub,Nat.reduceAdd,Int.reduceToNat,Nat.reducePow,Int.reducePow,Int.reduceLE,Int.reduceLT,IntKind.bits,b0,Nat.reduceBneDiff,Nat.reduceBeqDiff,Nat.reduceLT,List.flatMap_cons,List.flatMap_nil,List.append_nil,List.nil_append,List.cons_append,List.filter_cons,List.filter_nil,List.contains_cons,List.contains_nil,bne_self_eq_false,beq_self_eq_true,List.map_cons,List.map_nil,pK,aI,cd,ar,aY,aM,aq,aW,aF,bm,aN,a8,f84,Vs,NC,z6,ug,anb,apd,ape,apf,f87,rA,apg,yi,yj]
  first|done|omega|(repeat (refine And.intro (by first|omega|(simp only[aO];omega)|(simp only[aO]at*;omega)|(simp only[List.length_append,List.length_cons,List.length_nil,List.length_set,b4];omega)) ?_);first|done|omega)
def vM:bC where
 pre:=fun ds=>∃(x:a6) (b:Bool) (k:Int),ds=[aI x,.bool b,.ptr [.int .i64 k]]∧bO x∧-100000≤k∧k≤100000
 res:=fun ds=>match ds with
  |[p,_,.ptr [.int _ k]]=>aI (gU (eA p) k)
  |_=> .nilp
theorem Fx (Γ:Env) (f64:Γ.fn 64=some hb) (m64:Γ.mt 64=none) (ds:List D) (h:vM.pre ds):bT Γ UD UE ds fun d=>d=vM.res ds:=by
 obtain⟨x,b,k,rfl,aj,af,cn⟩:=h
 simp (maxSteps:=2000000) only[↓al,ak,↓reduceIte,reduceCtorEq,Nat.reduceEqDiff,Nat.reduceLeDiff,Nat.reduceSub,Nat.reduceAdd,Int.reduceToNat,Nat.reducePow,Int.reducePow,Int.reduceLE,Int.reduceLT,IntKind.bits,UD,UE,vM,aI,cd,f64,m64,hb]
 exact⟨x,k,rfl,aj,af,cn⟩
def vN:bC where
 pre:=fun ds=>∃(x:a6) (b:Bool) (k:Int),ds=[aI x,.bool b,.ptr [.int .i64 k]]∧bO x∧0≤k∧k≤100000
 res:=fun ds=>match ds with
  |[p,.bool b,.ptr [.int _ k]]=>aI (gy (eA p) k b)
  |_=> .nilp
theorem Fy (Γ:Env) (f74:Γ.fn 74=some pK) (NF:Γ.mt 74=none) (ds:List D) (h:vN.pre ds):bT Γ UN UO ds fun d=>d=vN.res ds:=by
 obtain⟨x,b,k,rfl,aj,af,cn⟩:=h
 simp (maxSteps:=2000000) only[↓al,ak,↓reduceIte,reduceCtorEq,Nat.reduceEqDiff,Nat.reduceLeDiff,Nat.reduceSub,Nat.reduceAdd,Int.reduceToNat,Nat.reducePow,Int.reducePow,Int.reduceLE,Int.reduceLT,IntKind.bits,UN,UO,vN,aI,cd,f74,NF,pK]
 exact⟨x,k,b,rfl,aj,af,cn⟩
def gu (x:a6) (n:Int):Int:=max (2*n+4 - bp x.m) 0+(x.e - max (2*n+4 - bp x.m) 0) % 2
def cQ (M:Nat):Nat:=if a5 M*a5 M<M then 2*a5 M+1 else 2*a5 M
def eo (x:a6) (n:Int) (up:Bool):a6:=gy (mk false (cQ (x.m*2^(gu x n).toNat)) ((x.e - gu x n) / 2 - 1)) n up
theorem PC (M:Nat):bp (a5 M)≤(bp M+1) / 2:=by
 rw[jP]
 refine ab8 (Nat.lt_of_lt_of_le (k4 M) ?_)
 rw[←Nat.pow_add]
 exact Nat.pow_le_pow_right (by decide) (by omega)
theorem Kt (M:Nat):bp (cQ M)≤(bp M+1) / 2+1:=by
 have h:=PC M
 rw[jP]at h⊢
 unfold cQ
 rw[Nat.pow_succ]
 split<;>omega
theorem AG:cQ 0=0:=by unfold cQ;rw[KY];rfl
theorem Gv {x:a6} {n:Int} (aQ:0≤n):0≤gu x n∧gu x n≤2*n+5:=by unfold gu;omega
theorem GA (x:a6) (n:Int):x.e - gu x n=2*((x.e - gu x n) / 2):=by unfold gu;omega
theorem ZP {x:a6} (aj:bO x) {n:Int} (aQ:0≤n) (jm:n≤1000):bO (mk false (cQ (x.m*2^(gu x n).toNat)) ((x.e - gu x n) / 2 - 1)):=by
 refine sg fun cf=> ?_
 have h0:x.m≠0:=fun e=>cf (by rw[e,Nat.zero_mul,AG])
 have hw:=aj.2 h0
 have af:=Gv (x:=x) aQ
 have he:=GA x n
 have aw:=Kt (x.m*2^(gu x n).toNat)
 rw[p2 h0]at aw
 omega
def um:bC where
 pre:=fun ds=>∃(x:a6) (n:Int) (up:Bool),ds=[aI x,.int .i64 n,.bool up]∧bO x∧0≤n∧n≤1000
 res:=fun ds=>match ds with
  |[p,.int _ n,.bool up]=>aI (eo (eA p) n up)
  |_=> .nilp
theorem Fz (Γ:Env) (f99:Γ.fn 99=some jG) (B8:Γ.mt 99=none) (f100:Γ.fn 100=some kg) (Mi:Γ.mt 100=none) (f101:Γ.fn 101=some q2) (aej:Γ.mt 101=none)
 (f102:Γ.fn 102=some jW) (HU:Γ.mt 102=none) (f103:Γ.fn 103=some pz) (Mj:Γ.mt 103=none) (f86:Γ.fn 86=some iN) (Vz:Γ.mt 86=none) (f85:Γ.fn 85=some jo) (Jc:Γ.mt 85=none)
 (f87:Γ.fn 87=some e1) (rA:Γ.mt 87=none) (f74:Γ.fn 74=some pK) (NF:Γ.mt 74=none) (ds:List D) (h:um.pre ds):bT Γ Uv Uw ds fun d=>d=um.res ds:=by
 obtain⟨x,n,up,rfl,aj,dS,jm⟩:=h
 have ex:=kK aj
 have da:=hn aj
 have az:=jc aj
 have ub:=Gv (x:=x) dS
 have B9:=GA x n
 have hW:=ZP aj dS jm
 obtain⟨jw,VA⟩:∃jw,jw=max (2*n+4 - (bp x.m:Int)) 0:=⟨_,rfl⟩
 have z3:(if (0:Int)>2*n+4 - bp x.m then 0 else 2*n+4 - (bp x.m:Int))=jw:=by split<;>omega
 have cj:gu x n=jw+(x.e - jw) % 2:=by unfold gu;rw[←VA]
 obtain⟨k,af⟩:∃k:Nat,gu x n=k:=⟨(gu x n).toNat,by omega⟩
 have qn:jw+(x.e - jw) % 2=(k:Int):=by omega
 obtain⟨M,cJ⟩:∃M,M=x.m*2^k:=⟨_,rfl⟩
 obtain⟨q,a7⟩:∃q,q=(x.e - k) / 2:=⟨_,rfl⟩
 rw[af]at B9 ub hW
 rw[Int.toNat_natCast,←cJ]at hW
 rw[←a7]at B9 hW
 have Jj:(x.e - (k:Int)).tdiv 2=q:=by rw[B9];exact Int.mul_tdiv_cancel_left _ (by decide)
 have ar:eo x n up=gy (mk false (cQ M) (q - 1)) n up:=by unfold eo;rw[af,Int.toNat_natCast,←cJ,←a7]
 have art:bp M≤bp x.m+k:=by
  by_cases h0:x.m=0
  ·rw[cJ,h0,Nat.zero_mul,eE];omega
  ·rw[cJ,p2 h0];omega
 have JK:=fo M
 have ahw:=PC M
 have ahx:=fo (a5 M)
 have JL:=Kt M
 have WI:=fo (cQ M)
 have aph:=CH (a5 M) (a5 M)
 have api:=fo (a5 M*a5 M)
 have af6:kg.own=false:=rfl
 have Jk:kg.pre [.ints .i64 (ao x.m),.int .i64 k]:=⟨_,_,rfl,c5 _,by omega,by omega⟩
 have Jl:kg.res [.ints .i64 (ao x.m),.int .i64 k]= .ints .i64 (ao M):=by simp only[kg,b5,Int.toNat_natCast,←cJ,aZ]
 have Ml:kg.pre [.ints .i64 (ao (a5 M)),.int .i64 1]:=⟨_,_,rfl,c5 _,by omega,by omega⟩
 have Mm:kg.res [.ints .i64 (ao (a5 M)),.int .i64 1]= .ints .i64 (ao (2*a5 M)):=by
  simp only[kg,b5,aZ]
  rw[show a5 M*2^(1:Int).toNat=2*a5 M by rw[show (1:Int).toNat=1 from rfl];omega]
 have af7:q2.own=false:=rfl
 have Jm:q2.pre [.ints .i64 (ao M)]:=⟨M,rfl,by omega⟩
 have Jn:q2.res [.ints .i64 (ao M)]= .ints .i64 (ao (a5 M)):=by simp only[q2,b5,aZ]
 have af8:pz.own=false:=rfl
 have Jo:pz.pre [.ints .i64 (ao (a5 M)),.ints .i64 (ao (a5 M))]:=⟨_,_,rfl,c5 _,c5 _,by omega,by omega⟩
 have Jp:pz.res [.ints .i64 (ao (a5 M)),.ints .i64 (ao (a5 M))]= .ints .i64 (ao (a5 M*a5 M)):=by simp only[pz,b5,aZ]
 have af9:jW.own=false:=rfl
 have aga:jW.pre [.ints .i64 (ao (a5 M*a5 M)),.ints .i64 (ao M)]:=⟨_,_,rfl,by omega,by omega⟩
 have Ca:e1.pre [.bool false,.ints .i64 (ao (cQ M)),.int .i64 (q - 1)]:=⟨_,_,_,rfl,by omega,by omega,by omega⟩
 have agb:e1.own=false:=rfl
 have yk:e1.res [.bool false,.ints .i64 (ao (cQ M)),.int .i64 (q - 1)]=aI (mk false (cQ M) (q - 1)):=by simp only[e1,b5]
 have NG:pK.pre [.agg [.bool (mk false (cQ M) (q - 1)).neg,.ints .i64 (ao (mk false (cQ M) (q - 1)).m),.int .i64 (mk false (cQ M) (q - 1)).e],.int .i64 n,.bool up]:=⟨_,_,_,rfl,hW,dS,by omega⟩
 rw[fU]
 unfold Uv Uw
 refine bZ (fun s=>s.ag 1= .d (.int .i64 n)∧s.ag 2= .d (.bool up)∧s.ag 3= .box 3 0∧s.az 3=some ⟨false,false,.cells [.d (.bool x.neg),.d (.ints .i64 (ao x.m)),.d (.int .i64 x.e)]⟩∧s.ag 6= .box 6 0∧(∃bN bs bq,s.az 6=some ⟨false,false,.cells [bN,bs,bq]⟩)) ?_ ?_
 ·simp (maxSteps:=2000000) only[↓al,ak,↓reduceIte,reduceCtorEq,Nat.reduceEqDiff,Nat.reduceLeDiff,Nat.reduceSub,Nat.reduceAdd,Int.reduceToNat,Nat.reducePow,Int.reducePow,Int.reduceLE,Int.reduceLT,IntKind.bits,aI]
  exact⟨_,_,_,rfl⟩
 rintro s ⟨h1,h2,aq,aW,aN,bN,bs,bq,a8⟩
 refine bZ (fun s=>s.ag 7= .d (.int .i64 jw)∧s.ag 1= .d (.int .i64 n)∧s.ag 2= .d (.bool up)∧s.ag 3= .box 3 0∧s.az 3=some ⟨false,false,.cells [.d (.bool x.neg),.d (.ints .i64 (ao x.m)),.d (.int .i64 x.e)]⟩∧s.ag 6= .box 6 0∧(∃bN bs bq,s.az 6=some ⟨false,false,.cells [bN,bs,bq]⟩)) ?_ ?_
 ·simp (maxSteps:=2000000) only[↓al,ak,↓reduceIte,reduceCtorEq,Nat.reduceEqDiff,Nat.reduceLeDiff,Nat.reduceSub,Nat.reduceAdd,Int.reduceToNat,Nat.reducePow,Int.reducePow,Int.reduceLE,Int.reduceLT,IntKind.bits,h1,h2,aq,aW,aN,a8,f99,B8,jG,b5,z3]
  repeat (refine And.intro (by first|omega|(simp only[aO];omega)|(simp only[aO]at*;omega)|(simp only[List.length_append,List.length_cons,List.length_nil,List.length_set,b4];omega)) ?_)
  refine⟨⟨x.m,rfl,by omega⟩,?_⟩
  repeat (refine And.intro (by first|omega|(simp only[aO];omega)|(simp only[aO]at*;omega)|(simp only[List.length_append,List.length_cons,List.length_nil,List.length_set,b4];omega)) ?_)
  exact⟨_,_,_,rfl⟩
 clear h1 h2 aq aW aN a8
 rintro s ⟨aM,h1,h2,aq,aW,aN,bN,bs,bq,a8⟩
 refine bZ (fun s=>s.ag 7= .d (.int .i64 k)∧s.ag 1= .d (.int .i64 n)∧s.ag 2= .d (.bool up)∧s.ag 3= .box 3 0∧s.az 3=some ⟨false,false,.cells [.d (.bool x.neg),.d (.ints .i64 (ao x.m)),.d (.int .i64 x.e)]⟩∧s.ag 6= .box 6 0∧(∃bN bs bq,s.az 6=some ⟨false,false,.cells [bN,bs,bq]⟩)) ?_ ?_
 ·simp (maxSteps:=2000000) only[↓al,ak,↓reduceIte,reduceCtorEq,Nat.reduceEqDiff,Nat.reduceLeDiff,Nat.reduceSub,Nat.reduceAdd,Int.reduceToNat,Nat.reducePow,Int.reducePow,Int.reduceLE,Int.reduceLT,IntKind.bits,aM,h1,h2,aq,aW,aN,a8,ZM,qn]
  repeat (refine And.intro (by first|omega|(simp only[aO];omega)|(simp only[aO]at*;omega)|(simp only[List.length_append,List.length_cons,List.length_nil,List.length_set,b4];omega)) ?_)
  exact⟨_,_,_,rfl⟩
 clear aM h1 h2 aq aW aN a8
 rintro s ⟨aM,h1,h2,aq,aW,aN,bN,bs,bq,a8⟩
 by_cases au:a5 M*a5 M<M
 ·have cf:cQ M=2*a5 M+1:=by unfold cQ;rw[if_pos au]
  have VB:jW.res [.ints .i64 (ao (a5 M*a5 M)),.ints .i64 (ao M)]= .int .i64 (-1):=by simp only[jW,b5,G3 au]
  have aR:bp (2*a5 M)≤bp (cQ M):=yU (by omega)
  have g3:=fo (2*a5 M)
  have apj:jo.own=false:=rfl
  have pad:jo.pre [.ints .i64 (ao (2*a5 M)),.ints .i64 (ao 1)]:=⟨_,_,rfl,c5 _,c5 _,by omega,by rw[show ao 1=[1]by decide+kernel];decide⟩
  have VC:jo.res [.ints .i64 (ao (2*a5 M)),.ints .i64 (ao 1)]= .ints .i64 (ao (cQ M)):=by simp only[jo,b5,aZ,cf]
  have apk:iN.own=false:=rfl
  have apl:iN.pre [.int .i64 1]:=⟨1,rfl,by simp only[aO];omega⟩
  have apm:iN.res [.int .i64 1]= .ints .i64 (ao 1):=rfl
  simp (maxSteps:=2000000) only[↓al,ak,↓reduceIte,reduceCtorEq,Nat.reduceEqDiff,Nat.reduceLeDiff,Nat.reduceSub,Nat.reduceAdd,Int.reduceToNat,Nat.reducePow,Int.reducePow,Int.reduceLE,Int.reduceLT,IntKind.bits,um,aI,cd,ar,aM,h1,h2,aq,aW,aN,a8,f100,Mi,af6,Jk,Jl,f101,aej,af7,Jm,Jn,Ml,Mm,f103,Mj,af8,Jo,Jp,f102,HU,af9,aga,VB,f86,Vz,apk,apl,apm,f85,Jc,apj,pad,VC,Jj,f87,rA,agb,Ca,yk,f74,NF,pK]
  repeat (refine And.intro (by first|omega|(simp only[aO];omega)|(simp only[aO]at*;omega)|(simp only[List.length_append,List.length_cons,List.length_nil,List.length_set,b4];omega)) ?_)
  exact⟨_,_,_,rfl,hW,dS,by omega⟩
 ·have cf:cQ M=2*a5 M:=by unfold cQ;rw[if_neg au]
  have BV:a5 M*a5 M=M∨M<a5 M*a5 M:=by omega
  have heq:a5 M*a5 M=M:=by have:=(pf M).1;omega
  have VB:jW.res [.ints .i64 (ao (a5 M*a5 M)),.ints .i64 (ao M)]= .int .i64 0:=by simp only[jW,b5,heq,G4]
  rw[cf]at Ca yk NG WI JL hW ar
  simp (maxSteps:=2000000) only[↓al,ak,↓reduceIte,reduceCtorEq,Nat.reduceEqDiff,Nat.reduceLeDiff,Nat.reduceSub,Nat.reduceAdd,Int.reduceToNat,Nat.reducePow,Int.reducePow,Int.reduceLE,Int.reduceLT,IntKind.bits,um,aI,cd,ar,aM,h1,h2,aq,aW,aN,a8,f100,Mi,af6,Jk,Jl,f101,aej,af7,Jm,Jn,Ml,Mm,f103,Mj,af8,Jo,Jp,f102,HU,af9,aga,VB,Jj,f87,rA,agb,Ca,yk,f74,NF,pK]
  repeat (refine And.intro (by first|omega|(simp only[aO];omega)|(simp only[aO]at*;omega)|(simp only[List.length_append,List.length_cons,List.length_nil,List.length_set,b4];omega)) ?_)
  exact⟨_,_,_,rfl,hW,dS,by omega⟩
def vO:bC where
 pre:=fun ds=>∃(x:a6) (b:Bool) (k:Int),ds=[aI x,.bool b,.ptr [.int .i64 k]]∧bO x∧0≤k∧k≤1000
 res:=fun ds=>match ds with
  |[p,.bool b,.ptr [.int _ k]]=>aI (eo (eA p) k b)
  |_=> .nilp
theorem FA (Γ:Env) (f61:Γ.fn 61=some um) (apn:Γ.mt 61=none) (ds:List D) (h:vO.pre ds):bT Γ Ut Uu ds fun d=>d=vO.res ds:=by
 obtain⟨x,b,k,rfl,aj,af,cn⟩:=h
 simp (maxSteps:=2000000) only[↓al,ak,↓reduceIte,reduceCtorEq,Nat.reduceEqDiff,Nat.reduceLeDiff,Nat.reduceSub,Nat.reduceAdd,Int.reduceToNat,Nat.reducePow,Int.reducePow,Int.reduceLE,Int.reduceLT,IntKind.bits,Ut,Uu,vO,aI,cd,f61,apn,um]
 exact⟨x,k,b,rfl,aj,af,cn⟩
def q7 (f:Nat) (k:Int) (x:a6) (up:Bool):a6:=if f=68 then gU x k else if f=73 then gy x k up else eo x k up
def lB:bC where
 pre:=fun ds=>∃(x:bP) (f:Nat) (k:Int),ds=[aA x,.fn f [] [.ptr [.int .i64 k]]]∧hj x∧((f=68∧-100000≤k∧k≤100000)∨(f=73∧0≤k∧k≤100000)∨(f=60∧0≤k∧k≤1000))
 res:=fun ds=>match ds with
  |[p,.fn f _ [.ptr [.int _ k]]]=>aA ⟨q7 f k (fe p).lo false,q7 f k (fe p).hi true⟩
  |_=> .nilp
theorem FB (Γ:Env) (f68:Γ.fn 68=some vM) (apo:Γ.mt 68=none) (f73:Γ.fn 73=some vN) (apq:Γ.mt 73=none) (f60:Γ.fn 60=some vO) (apr:Γ.mt 60=none) (ds:List D) (h:lB.pre ds):bT Γ IH II ds fun d=>d=lB.res ds:=by
 obtain⟨x,f,k,rfl,⟨eu,e5⟩,⟨rfl,h1,h2⟩|⟨rfl,h1,h2⟩|⟨rfl,h1,h2⟩⟩:=h
 ·have e:∀y b,q7 68 k y b=gU y k:=fun y b=>by unfold q7;rw[if_pos rfl]
  simp (maxSteps:=2000000) only[↓al,ak,↓reduceIte,reduceCtorEq,Nat.reduceEqDiff,Nat.reduceLeDiff,Nat.reduceSub,Nat.reduceAdd,Int.reduceToNat,Nat.reducePow,Int.reducePow,Int.reduceLE,Int.reduceLT,IntKind.bits,IH,II,lB,aA,dq,e,f68,apo,vM,aI,cd]
  exact⟨⟨x.lo,false,k,rfl,eu,h1,h2⟩,⟨x.hi,true,k,rfl,e5,h1,h2⟩⟩
 ·have e:∀y b,q7 73 k y b=gy y k b:=fun y b=>by unfold q7;rw[if_neg (by decide),if_pos rfl]
  simp (maxSteps:=2000000) only[↓al,ak,↓reduceIte,reduceCtorEq,Nat.reduceEqDiff,Nat.reduceLeDiff,Nat.reduceSub,Nat.reduceAdd,Int.reduceToNat,Nat.reducePow,Int.reducePow,Int.reduceLE,Int.reduceLT,IntKind.bits,IH,II,lB,aA,dq,e,f73,apq,vN,aI,cd]
  exact⟨⟨x.lo,false,k,rfl,eu,h1,h2⟩,⟨x.hi,true,k,rfl,e5,h1,h2⟩⟩
 ·have e:∀y b,q7 60 k y b=eo y k b:=fun y b=>by unfold q7;rw[if_neg (by decide),if_neg (by decide)]
  simp (maxSteps:=2000000) only[↓al,ak,↓reduceIte,reduceCtorEq,Nat.reduceEqDiff,Nat.reduceLeDiff,Nat.reduceSub,Nat.reduceAdd,Int.reduceToNat,Nat.reducePow,Int.reducePow,Int.reduceLE,Int.reduceLT,IntKind.bits,IH,II,lB,aA,dq,e,f60,apr,vO,aI,cd]
  exact⟨⟨x.lo,false,k,rfl,eu,h1,h2⟩,⟨x.hi,true,k,rfl,e5,h1,h2⟩⟩
def gV (a:bP) (k:Int):bP:=⟨gU a.lo k,gU a.hi k⟩
def qh (a:bP) (n:Int):bP:=⟨gy a.lo n false,gy a.hi n true⟩
def tB (a:bP) (n:Int):bP:=⟨eo a.lo n false,eo a.hi n true⟩
def sY:bC where
 pre:=fun ds=>∃(x:bP) (k:Int),ds=[aA x,.int .i64 k]∧hj x∧-100000≤k∧k≤100000
 res:=fun ds=>match ds with
  |[p,.int _ k]=>aA (gV (fe p) k)
  |_=> .nilp
theorem FC (Γ:Env) (f59:Γ.fn 59=some lB) (Jq:Γ.mt 59=none) (ds:List D) (h:sY.pre ds):bT Γ TI TJ ds fun d=>d=sY.res ds:=by
 obtain⟨x,k,rfl,aj,h1,h2⟩:=h
 have e:∀y b,q7 68 k y b=gU y k:=fun y b=>by unfold q7;rw[if_pos rfl]
 simp (maxSteps:=2000000) only[↓al,ak,↓reduceIte,reduceCtorEq,Nat.reduceEqDiff,Nat.reduceLeDiff,Nat.reduceSub,Nat.reduceAdd,Int.reduceToNat,Nat.reducePow,Int.reducePow,Int.reduceLE,Int.reduceLT,IntKind.bits,TI,TJ,sY,aA,dq,e,gV,f59,Jq,lB]
 exact⟨x,_,k,rfl,aj,.inl ⟨rfl,h1,h2⟩⟩
def vP:bC where
 pre:=fun ds=>∃(x:bP) (k:Int),ds=[aA x,.int .i64 k]∧hj x∧0≤k∧k≤100000
 res:=fun ds=>match ds with
  |[p,.int _ k]=>aA (qh (fe p) k)
  |_=> .nilp
theorem FD (Γ:Env) (f59:Γ.fn 59=some lB) (Jq:Γ.mt 59=none) (ds:List D) (h:vP.pre ds):bT Γ TU TV ds fun d=>d=vP.res ds:=by
 obtain⟨x,k,rfl,aj,h1,h2⟩:=h
 have e:∀y b,q7 73 k y b=gy y k b:=fun y b=>by unfold q7;rw[if_neg (by decide),if_pos rfl]
 simp (maxSteps:=2000000) only[↓al,ak,↓reduceIte,reduceCtorEq,Nat.reduceEqDiff,Nat.reduceLeDiff,Nat.reduceSub,Nat.reduceAdd,Int.reduceToNat,Nat.reducePow,Int.reducePow,Int.reduceLE,Int.reduceLT,IntKind.bits,TU,TV,vP,aA,dq,e,qh,f59,Jq,lB]
 exact⟨x,_,k,rfl,aj,.inr (.inl ⟨rfl,h1,h2⟩)⟩
def sm (x:bP) (n:Int):D:=if ia x.lo<0 then .fh [aA ⟨⟨false,0,0⟩,⟨false,0,0⟩⟩,.bool false]else .fh [aA (tB x n),.bool true]
def rB:bC where
 pre:=fun ds=>∃(x:bP) (k:Int),ds=[aA x,.int .i64 k]∧hj x∧0≤k∧k≤1000
 res:=fun ds=>match ds with
  |[p,.int _ k]=>sm (fe p) k
  |_=> .nilp
theorem FE (Γ:Env) (f59:Γ.fn 59=some lB) (Jq:Γ.mt 59=none) (f58:Γ.fn 58=some pJ) (ND:Γ.mt 58=none) (ds:List D) (h:rB.pre ds):bT Γ MZ M1 ds fun d=>d=rB.res ds:=by
 obtain⟨x,k,rfl,aj,h1,h2⟩:=h
 have ta:ao 0=[]:=by decide+kernel
 have e:∀y b,q7 60 k y b=eo y k b:=fun y b=>by unfold q7;rw[if_neg (by decide),if_neg (by decide)]
 by_cases aG:ia x.lo<0
 ·have ar:sm x k= .fh [aA ⟨⟨false,0,0⟩,⟨false,0,0⟩⟩,.bool false]:=by unfold sm;rw[if_pos aG]
  simp (maxSteps:=2000000) only[↓al,ak,↓reduceIte,reduceCtorEq,Nat.reduceEqDiff,Nat.reduceLeDiff,Nat.reduceSub,Nat.reduceAdd,Int.reduceToNat,Nat.reducePow,Int.reducePow,Int.reduceLE,Int.reduceLT,IntKind.bits,MZ,M1,rB,aA,dq,e,ar,aG,ta,f58,ND,pJ,aI,cd]
  first|done|exact⟨x.lo,rfl⟩
 ·have ar:sm x k= .fh [aA (tB x k),.bool true]:=by unfold sm;rw[if_neg aG]
  simp (maxSteps:=2000000) only[↓al,ak,↓reduceIte,reduceCtorEq,Nat.reduceEqDiff,Nat.reduceLeDiff,Nat.reduceSub,Nat.reduceAdd,Int.reduceToNat,Nat.reducePow,Int.reducePow,Int.reduceLE,Int.reduceLT,IntKind.bits,MZ,M1,rB,aA,dq,e,ar,aG,ta,tB,f58,ND,pJ,aI,cd,f59,Jq,lB]
  refine⟨⟨x.lo,rfl⟩,?_⟩
  exact⟨x,_,k,rfl,aj,.inr (.inr ⟨rfl,h1,h2⟩)⟩
def jY (x:a6):List D:=[.bool x.neg,.ints .i64 (ao x.m),.int .i64 x.e]
theorem alC (x:a6):eA (.agg (jY x))=x:=cd x
theorem Hi:∀(l:List a6),(l.map jY).map (fun r=>eA (.agg r))=l
 |[]=>rfl
 |x::l=>by rw[List.map_cons,List.map_cons,Hi l,alC]
def er (lt:a6→a6→Bool) (m:a6):List a6→a6
 |[]=>m
 |y::aB=>er lt (if lt y m=true then y else m) aB
def gA (y m:a6):Bool:=decide (ej y m<0)
def gB (y m:a6):Bool:=decide (ej y m>0)
theorem Pg {lt:a6→a6→Bool} {m:a6} {l:List a6} {i:Nat} (h:i<l.length):er lt m (l.drop i)=er lt (if lt l[i] m=true then l[i]else m) (l.drop (i+1)):=by
 rw[List.drop_eq_getElem_cons h];rfl
def qv:bC where
 pre:=fun ds=>∃(x:a6) (l:List a6),ds=[.recs 3 ((x::l).map jY),.fn 57 [] []]∧(∀y∈x::l,bO y)∧l.length≤1000
 res:=fun ds=>match ds with
  |[.recs _ rows,_]=>match rows.map (fun r=>eA (.agg r))with
   |x::l=>aI (er gA x l)
   |[]=> .nilp
  |_=> .nilp
theorem FF (Γ:Env) (f57:Γ.fn 57=some jI) (VD:Γ.mt 57=none) (ds:List D) (h:qv.pre ds):bT Γ UJ UK ds fun d=>d=qv.res ds:=by
 obtain⟨x,l,rfl,hW,aJ⟩:=h
 have cu:qv.res [.recs 3 ((x::l).map jY),.fn 57 [] []]=aI (er gA x l):=by simp only[qv,Hi]
 rw[cu]
 have Ap:jI.own=false:=rfl
 have hN:∀y m:a6,bO y→bO m→jI.pre [.agg [.bool y.neg,.ints .i64 (ao y.m),.int .i64 y.e],.agg [.bool m.neg,.ints .i64 (ao m.m),.int .i64 m.e]]:=fun y m h1 h2=>⟨y,m,rfl,h1,h2⟩
 have rc:∀y m:a6,jI.res [.agg [.bool y.neg,.ints .i64 (ao y.m),.int .i64 y.e],.agg [.bool m.neg,.ints .i64 (ao m.m),.int .i64 m.e]]= .int .i64 (ej y m):=fun y m=>by simp only[jI,cd]
 obtain⟨rows,jE⟩:∃rows,rows=(x::l).map jY:=⟨_,rfl⟩
 have hlen:rows.length=l.length+1:=by rw[jE,List.length_map,List.length_cons]
 have z9:∀(i:Nat) (hi:i<l.length+1),rows.getD i []=[.bool ((x::l)[i]'(by simpa using hi)).neg,.ints .i64 (ao ((x::l)[i]'(by simpa using hi)).m),.int .i64 ((x::l)[i]'(by simpa using hi)).e]:=fun i hi=>by
  rw[List.getD_eq_getElem?_getD,List.getElem?_eq_getElem (by omega),Option.getD_some]
  simp only[jE,List.getElem_map,jY]
 rw[←jE]
 have h0:=z9 0 (by omega)
 simp only[List.getElem_cons_zero]at h0
 have cC:¬(rows.length:Int)<1:=by omega
 have c9:(0:Int)<rows.length:=by omega
 have FG:=hW x (by simp)
 simp (maxSteps:=2000000) only[↓al,ak,↓reduceIte,reduceCtorEq,Nat.reduceEqDiff,Nat.reduceLeDiff,Nat.reduceSub,Nat.reduceAdd,Int.reduceToNat,Nat.reducePow,Int.reducePow,Int.reduceLE,Int.reduceLT,IntKind.bits,UJ,UK,aI,cC,c9,h0]
 refine bZ (fun s=>s.ag 4= .box 4 0∧(∃bN bs bq,s.az 4=some ⟨false,false,.cells [bN,bs,bq]⟩)∧s.ag 5= .box 5 0∧s.az 5=some ⟨false,false,.cells [.d (.bool (er gA x l).neg),.d (.ints .i64 (ao (er gA x l).m)),.d (.int .i64 (er gA x l).e)]⟩) ?_ ?_
 ·simp (maxSteps:=2000000) only[↓al,ak,↓reduceIte,reduceCtorEq,Nat.reduceEqDiff,Nat.reduceLeDiff,Nat.reduceSub,Nat.reduceAdd,Int.reduceToNat,Nat.reducePow,Int.reducePow,Int.reduceLE,Int.reduceLT,IntKind.bits]
  refine fp (fun s=>∃(i:Nat) (m:a6),s.ag 0= .d (.recs 3 rows)∧s.ag 1= .d (.fn 57 [] [])∧s.ag 4= .box 4 0∧(∃bN bs bq,s.az 4=some ⟨false,false,.cells [bN,bs,bq]⟩)∧s.ag 5= .box 5 0∧s.az 5=some ⟨false,false,.cells [.d (.bool m.neg),.d (.ints .i64 (ao m.m)),.d (.int .i64 m.e)]⟩∧s.ag 6= .d (.int .i64 ((i+1:Nat):Int))∧i≤l.length∧bO m∧er gA m (l.drop i)=er gA x l)
   (fun s=>match s.ag 6 with| .d (.int _ n)=>rows.length - n.toNat|_=>0) ?_ ?_
  ·refine⟨0,x,?_⟩
   simp (maxSteps:=2000000) only[↓al,ak,↓reduceIte,reduceCtorEq,Nat.reduceEqDiff,Nat.reduceLeDiff,Nat.reduceSub,Nat.reduceAdd,Int.reduceToNat,Nat.reducePow,Int.reducePow,Int.reduceLE,Int.reduceLT,IntKind.bits,Nat.zero_add,List.drop_zero]
   exact⟨⟨_,_,_,rfl⟩,rfl,Nat.zero_le _,FG⟩
  ·rintro s ⟨i,m,cm,a4,cW,⟨bN,bs,bq,aS⟩,eg,bm,fA,hi,hm,hf⟩
   by_cases ci:((i+1:Nat):Int)<rows.length
   ·have uo:i<l.length:=by omega
    have gD:i+1<rows.length:=by omega
    have sZ:=z9 (i+1) (by omega)
    obtain⟨y,hy⟩:∃y,y=l[i]:=⟨_,rfl⟩
    have VE:(x::l)[i+1]'(by simpa using uo)=y:=by rw[hy];rfl
    rw[VE]at sZ
    have VF:bO y:=hW y (by rw[hy];exact List.mem_cons_of_mem _ (List.getElem_mem uo))
    rw[Pg uo,←hy]at hf
    have p1:=hN y m VF hm
    have bX:=rc y m
    have key:(.ints .i64 (ao y.m):D)= .ints .i64 (ao y.m):=rfl
    have HV:bO (if gA y m=true then y else m):=by split<;>assumption
    obtain⟨M,cJ⟩:∃M,M=(if gA y m=true then y else m):=⟨_,rfl⟩
    rw[←cJ]at hf HV
    refine bZ (fun s=>s.ag 0= .d (.recs 3 rows)∧s.ag 1= .d (.fn 57 [] [])∧s.ag 4= .box 4 0∧(∃bN bs bq,s.az 4=some ⟨false,false,.cells [bN,bs,bq]⟩)∧s.ag 5= .box 5 0∧s.az 5=some ⟨false,false,.cells [.d (.bool m.neg),.d (.ints .i64 (ao m.m)),.d (.int .i64 m.e)]⟩∧s.ag 6= .d (.int .i64 ((i+1:Nat):Int))) ?_ ?_
    ·simp (maxSteps:=60000) only[↓al,ak,↓reduceIte,reduceCtorEq,Nat.reduceEqDiff,Nat.reduceLeDiff,Nat.reduceSub,Nat.reduceAdd,Int.reduceToNat,Nat.reducePow,Int.reducePow,Int.reduceLE,Int.reduceLT,IntKind.bits,cm,a4,cW,aS,eg,bm,fA,ci,gD]
     exact⟨_,_,_,rfl⟩
    have jL:=fA
    clear cm a4 cW aS eg bm fA
    rintro s ⟨cm,a4,cW,⟨bN,bs,bq,aS⟩,eg,bm,fA⟩
    refine bZ (fun s=>s.ag 0= .d (.recs 3 rows)∧s.ag 1= .d (.fn 57 [] [])∧s.ag 4= .box 4 0∧(∃bN bs bq,s.az 4=some ⟨false,false,.cells [bN,bs,bq]⟩)∧s.ag 5= .box 5 0∧s.az 5=some ⟨false,false,.cells [.d (.bool M.neg),.d (.ints .i64 (ao M.m)),.d (.int .i64 M.e)]⟩∧s.ag 6= .d (.int .i64 ((i+1:Nat):Int))) ?_ ?_
    ·rw[k3]
     refine bZ (fun s=>s.ag 27= .d (.bool (gA y m))∧s.ag 0= .d (.recs 3 rows)∧s.ag 1= .d (.fn 57 [] [])∧s.ag 4= .box 4 0∧(∃bN bs bq,s.az 4=some ⟨false,false,.cells [bN,bs,bq]⟩)∧s.ag 5= .box 5 0∧s.az 5=some ⟨false,false,.cells [.d (.bool m.neg),.d (.ints .i64 (ao m.m)),.d (.int .i64 m.e)]⟩∧s.ag 6= .d (.int .i64 ((i+1:Nat):Int))) ?_ ?_
     ·simp (maxSteps:=60000) only[↓al,ak,↓reduceIte,reduceCtorEq,Nat.reduceEqDiff,Nat.reduceLeDiff,Nat.reduceSub,Nat.reduceAdd,Int.reduceToNat,Nat.reducePow,Int.reducePow,Int.reduceLE,Int.reduceLT,IntKind.bits,cm,a4,cW,aS,eg,bm,fA,gD,ci,sZ,Int.toNat_natCast,f57,VD,Ap,p1,bX]
      exact⟨by omega,rfl,_,_,_,rfl⟩
     clear cm a4 cW aS eg bm fA
     rintro s ⟨yl,cm,a4,cW,⟨bN,bs,bq,aS⟩,eg,bm,fA⟩
     cases aw:gA y m with
     |true=>
      rw[aw,if_pos rfl]at cJ
      rw[aw]at yl
      subst cJ
      simp (maxSteps:=60000) only[↓al,ak,↓reduceIte,reduceCtorEq,Nat.reduceEqDiff,Nat.reduceLeDiff,Nat.reduceSub,Nat.reduceAdd,Int.reduceToNat,Nat.reducePow,Int.reducePow,Int.reduceLE,Int.reduceLT,IntKind.bits,yl,cm,a4,cW,aS,eg,bm,fA,gD,ci,sZ,Int.toNat_natCast]
      exact⟨by omega,_,_,_,rfl⟩
     |false=>
      rw[aw,if_neg (by decide)]at cJ
      rw[aw]at yl
      subst cJ
      simp (maxSteps:=60000) only[↓al,ak,↓reduceIte,reduceCtorEq,Nat.reduceEqDiff,Nat.reduceLeDiff,Nat.reduceSub,Nat.reduceAdd,Int.reduceToNat,Nat.reducePow,Int.reducePow,Int.reduceLE,Int.reduceLT,IntKind.bits,yl,cm,a4,cW,aS,eg,bm,fA]
      exact⟨_,_,_,rfl⟩
    clear cm a4 cW aS eg bm fA
    rintro s ⟨cm,a4,cW,⟨bN,bs,bq,aS⟩,eg,bm,fA⟩
    simp (maxSteps:=60000) only[↓al,ak,↓reduceIte,reduceCtorEq,Nat.reduceEqDiff,Nat.reduceLeDiff,Nat.reduceSub,Nat.reduceAdd,Int.reduceToNat,Nat.reducePow,Int.reducePow,Int.reduceLE,Int.reduceLT,IntKind.bits,cm,a4,cW,aS,eg,bm,fA]
    refine⟨by simp only[aO];omega,⟨i+1,M,⟨_,_,_,rfl⟩,rfl,by omega,by omega,HV,hf⟩,?_⟩
    rw[jL]
    show rows.length - _<rows.length - _
    omega
   ·have VG:l.length≤i:=by omega
    rw[List.drop_eq_nil_of_le VG]at hf
    simp only[er]at hf
    subst hf
    simp (maxSteps:=2000000) only[↓al,ak,↓reduceIte,reduceCtorEq,Nat.reduceEqDiff,Nat.reduceLeDiff,Nat.reduceSub,Nat.reduceAdd,Int.reduceToNat,Nat.reducePow,Int.reducePow,Int.reduceLE,Int.reduceLT,IntKind.bits,cm,a4,cW,aS,eg,bm,fA,ci]
    exact⟨_,_,_,rfl⟩
 ·rintro s ⟨cW,⟨bN,bs,bq,aS⟩,eg,bm⟩
  simp (maxSteps:=2000000) only[↓al,ak,↓reduceIte,reduceCtorEq,Nat.reduceEqDiff,Nat.reduceLeDiff,Nat.reduceSub,Nat.reduceAdd,Int.reduceToNat,Nat.reducePow,Int.reducePow,Int.reduceLE,Int.reduceLT,IntKind.bits,cW,aS,eg,bm]
def qw:bC where
 pre:=fun ds=>∃(x:a6) (l:List a6),ds=[.recs 3 ((x::l).map jY),.fn 57 [] []]∧(∀y∈x::l,bO y)∧l.length≤1000
 res:=fun ds=>match ds with
  |[.recs _ rows,_]=>match rows.map (fun r=>eA (.agg r))with
   |x::l=>aI (er gB x l)
   |[]=> .nilp
  |_=> .nilp
theorem FH (Γ:Env) (f57:Γ.fn 57=some jI) (VD:Γ.mt 57=none) (ds:List D) (h:qw.pre ds):bT Γ UL UM ds fun d=>d=qw.res ds:=by
 obtain⟨x,l,rfl,hW,aJ⟩:=h
 have cu:qw.res [.recs 3 ((x::l).map jY),.fn 57 [] []]=aI (er gB x l):=by simp only[qw,Hi]
 rw[cu]
 have Ap:jI.own=false:=rfl
 have hN:∀y m:a6,bO y→bO m→jI.pre [.agg [.bool y.neg,.ints .i64 (ao y.m),.int .i64 y.e],.agg [.bool m.neg,.ints .i64 (ao m.m),.int .i64 m.e]]:=fun y m h1 h2=>⟨y,m,rfl,h1,h2⟩
 have rc:∀y m:a6,jI.res [.agg [.bool y.neg,.ints .i64 (ao y.m),.int .i64 y.e],.agg [.bool m.neg,.ints .i64 (ao m.m),.int .i64 m.e]]= .int .i64 (ej y m):=fun y m=>by simp only[jI,cd]
 obtain⟨rows,jE⟩:∃rows,rows=(x::l).map jY:=⟨_,rfl⟩
 have hlen:rows.length=l.length+1:=by rw[jE,List.length_map,List.length_cons]
 have z9:∀(i:Nat) (hi:i<l.length+1),rows.getD i []=[.bool ((x::l)[i]'(by simpa using hi)).neg,.ints .i64 (ao ((x::l)[i]'(by simpa using hi)).m),.int .i64 ((x::l)[i]'(by simpa using hi)).e]:=fun i hi=>by
  rw[List.getD_eq_getElem?_getD,List.getElem?_eq_getElem (by omega),Option.getD_some]
  simp only[jE,List.getElem_map,jY]
 rw[←jE]
 have h0:=z9 0 (by omega)
 simp only[List.getElem_cons_zero]at h0
 have cC:¬(rows.length:Int)<1:=by omega
 have c9:(0:Int)<rows.length:=by omega
 have FG:=hW x (by simp)
 simp (maxSteps:=2000000) only[↓al,ak,↓reduceIte,reduceCtorEq,Nat.reduceEqDiff,Nat.reduceLeDiff,Nat.reduceSub,Nat.reduceAdd,Int.reduceToNat,Nat.reducePow,Int.reducePow,Int.reduceLE,Int.reduceLT,IntKind.bits,UL,UM,aI,cC,c9,h0]
 refine bZ (fun s=>s.ag 4= .box 4 0∧(∃bN bs bq,s.az 4=some ⟨false,false,.cells [bN,bs,bq]⟩)∧s.ag 5= .box 5 0∧s.az 5=some ⟨false,false,.cells [.d (.bool (er gB x l).neg),.d (.ints .i64 (ao (er gB x l).m)),.d (.int .i64 (er gB x l).e)]⟩) ?_ ?_
 ·simp (maxSteps:=2000000) only[↓al,ak,↓reduceIte,reduceCtorEq,Nat.reduceEqDiff,Nat.reduceLeDiff,Nat.reduceSub,Nat.reduceAdd,Int.reduceToNat,Nat.reducePow,Int.reducePow,Int.reduceLE,Int.reduceLT,IntKind.bits]
  refine fp (fun s=>∃(i:Nat) (m:a6),s.ag 0= .d (.recs 3 rows)∧s.ag 1= .d (.fn 57 [] [])∧s.ag 4= .box 4 0∧(∃bN bs bq,s.az 4=some ⟨false,false,.cells [bN,bs,bq]⟩)∧s.ag 5= .box 5 0∧s.az 5=some ⟨false,false,.cells [.d (.bool m.neg),.d (.ints .i64 (ao m.m)),.d (.int .i64 m.e)]⟩∧s.ag 6= .d (.int .i64 ((i+1:Nat):Int))∧i≤l.length∧bO m∧er gB m (l.drop i)=er gB x l)
   (fun s=>match s.ag 6 with| .d (.int _ n)=>rows.length - n.toNat|_=>0) ?_ ?_
  ·refine⟨0,x,?_⟩
   simp (maxSteps:=2000000) only[↓al,ak,↓reduceIte,reduceCtorEq,Nat.reduceEqDiff,Nat.reduceLeDiff,Nat.reduceSub,Nat.reduceAdd,Int.reduceToNat,Nat.reducePow,Int.reducePow,Int.reduceLE,Int.reduceLT,IntKind.bits,Nat.zero_add,List.drop_zero]
   exact⟨⟨_,_,_,rfl⟩,rfl,Nat.zero_le _,FG⟩
  ·rintro s ⟨i,m,cm,a4,cW,⟨bN,bs,bq,aS⟩,eg,bm,fA,hi,hm,hf⟩
   by_cases ci:((i+1:Nat):Int)<rows.length
   ·have uo:i<l.length:=by omega
    have gD:i+1<rows.length:=by omega
    have sZ:=z9 (i+1) (by omega)
    obtain⟨y,hy⟩:∃y,y=l[i]:=⟨_,rfl⟩
    have VE:(x::l)[i+1]'(by simpa using uo)=y:=by rw[hy];rfl
    rw[VE]at sZ
    have VF:bO y:=hW y (by rw[hy];exact List.mem_cons_of_mem _ (List.getElem_mem uo))
    rw[Pg uo,←hy]at hf
    have p1:=hN y m VF hm
    have bX:=rc y m
    have key:(.ints .i64 (ao y.m):D)= .ints .i64 (ao y.m):=rfl
    have HV:bO (if gB y m=true then y else m):=by split<;>assumption
    obtain⟨M,cJ⟩:∃M,M=(if gB y m=true then y else m):=⟨_,rfl⟩
    rw[←cJ]at hf HV
    refine bZ (fun s=>s.ag 0= .d (.recs 3 rows)∧s.ag 1= .d (.fn 57 [] [])∧s.ag 4= .box 4 0∧(∃bN bs bq,s.az 4=some ⟨false,false,.cells [bN,bs,bq]⟩)∧s.ag 5= .box 5 0∧s.az 5=some ⟨false,false,.cells [.d (.bool m.neg),.d (.ints .i64 (ao m.m)),.d (.int .i64 m.e)]⟩∧s.ag 6= .d (.int .i64 ((i+1:Nat):Int))) ?_ ?_
    ·simp (maxSteps:=60000) only[↓al,ak,↓reduceIte,reduceCtorEq,Nat.reduceEqDiff,Nat.reduceLeDiff,Nat.reduceSub,Nat.reduceAdd,Int.reduceToNat,Nat.reducePow,Int.reducePow,Int.reduceLE,Int.reduceLT,IntKind.bits,cm,a4,cW,aS,eg,bm,fA,ci,gD]
     exact⟨_,_,_,rfl⟩
    have jL:=fA
    clear cm a4 cW aS eg bm fA
    rintro s ⟨cm,a4,cW,⟨bN,bs,bq,aS⟩,eg,bm,fA⟩
    refine bZ (fun s=>s.ag 0= .d (.recs 3 rows)∧s.ag 1= .d (.fn 57 [] [])∧s.ag 4= .box 4 0∧(∃bN bs bq,s.az 4=some ⟨false,false,.cells [bN,bs,bq]⟩)∧s.ag 5= .box 5 0∧s.az 5=some ⟨false,false,.cells [.d (.bool M.neg),.d (.ints .i64 (ao M.m)),.d (.int .i64 M.e)]⟩∧s.ag 6= .d (.int .i64 ((i+1:Nat):Int))) ?_ ?_
    ·rw[k3]
     refine bZ (fun s=>s.ag 27= .d (.bool (gB y m))∧s.ag 0= .d (.recs 3 rows)∧s.ag 1= .d (.fn 57 [] [])∧s.ag 4= .box 4 0∧(∃bN bs bq,s.az 4=some ⟨false,false,.cells [bN,bs,bq]⟩)∧s.ag 5= .box 5 0∧s.az 5=some ⟨false,false,.cells [.d (.bool m.neg),.d (.ints .i64 (ao m.m)),.d (.int .i64 m.e)]⟩∧s.ag 6= .d (.int .i64 ((i+1:Nat):Int))) ?_ ?_
     ·simp (maxSteps:=60000) only[↓al,ak,↓reduceIte,reduceCtorEq,Nat.reduceEqDiff,Nat.reduceLeDiff,Nat.reduceSub,Nat.reduceAdd,Int.reduceToNat,Nat.reducePow,Int.reducePow,Int.reduceLE,Int.reduceLT,IntKind.bits,cm,a4,cW,aS,eg,bm,fA,gD,ci,sZ,Int.toNat_natCast,f57,VD,Ap,p1,bX]
      exact⟨by omega,rfl,_,_,_,rfl⟩
     clear cm a4 cW aS eg bm fA
     rintro s ⟨yl,cm,a4,cW,⟨bN,bs,bq,aS⟩,eg,bm,fA⟩
     cases aw:gB y m with
     |true=>
      rw[aw,if_pos rfl]at cJ
      rw[aw]at yl
      subst cJ
      simp (maxSteps:=60000) only[↓al,ak,↓reduceIte,reduceCtorEq,Nat.reduceEqDiff,Nat.reduceLeDiff,Nat.reduceSub,Nat.reduceAdd,Int.reduceToNat,Nat.reducePow,Int.reducePow,Int.reduceLE,Int.reduceLT,IntKind.bits,yl,cm,a4,cW,aS,eg,bm,fA,gD,ci,sZ,Int.toNat_natCast]
      exact⟨by omega,_,_,_,rfl⟩
     |false=>
      rw[aw,if_neg (by decide)]at cJ
      rw[aw]at yl
      subst cJ
      simp (maxSteps:=60000) only[↓al,ak,↓reduceIte,reduceCtorEq,Nat.reduceEqDiff,Nat.reduceLeDiff,Nat.reduceSub,Nat.reduceAdd,Int.reduceToNat,Nat.reducePow,Int.reducePow,Int.reduceLE,Int.reduceLT,IntKind.bits,yl,cm,a4,cW,aS,eg,bm,fA]
      exact⟨_,_,_,rfl⟩
    clear cm a4 cW aS eg bm fA
    rintro s ⟨cm,a4,cW,⟨bN,bs,bq,aS⟩,eg,bm,fA⟩
    simp (maxSteps:=60000) only[↓al,ak,↓reduceIte,reduceCtorEq,Nat.reduceEqDiff,Nat.reduceLeDiff,Nat.reduceSub,Nat.reduceAdd,Int.reduceToNat,Nat.reducePow,Int.reducePow,Int.reduceLE,Int.reduceLT,IntKind.bits,cm,a4,cW,aS,eg,bm,fA]
    refine⟨by simp only[aO];omega,⟨i+1,M,⟨_,_,_,rfl⟩,rfl,by omega,by omega,HV,hf⟩,?_⟩
    rw[jL]
    show rows.length - _<rows.length - _
    omega
   ·have VG:l.length≤i:=by omega
    rw[List.drop_eq_nil_of_le VG]at hf
    simp only[er]at hf
    subst hf
    simp (maxSteps:=2000000) only[↓al,ak,↓reduceIte,reduceCtorEq,Nat.reduceEqDiff,Nat.reduceLeDiff,Nat.reduceSub,Nat.reduceAdd,Int.reduceToNat,Nat.reducePow,Int.reducePow,Int.reduceLE,Int.reduceLT,IntKind.bits,cm,a4,cW,aS,eg,bm,fA,ci]
    exact⟨_,_,_,rfl⟩
 ·rintro s ⟨cW,⟨bN,bs,bq,aS⟩,eg,bm⟩
  simp (maxSteps:=2000000) only[↓al,ak,↓reduceIte,reduceCtorEq,Nat.reduceEqDiff,Nat.reduceLeDiff,Nat.reduceSub,Nat.reduceAdd,Int.reduceToNat,Nat.reducePow,Int.reducePow,Int.reduceLE,Int.reduceLT,IntKind.bits,cW,aS,eg,bm]
def iD (x:bP):List D:=[.bool x.lo.neg,.ints .i64 (ao x.lo.m),.int .i64 x.lo.e,.bool x.hi.neg,.ints .i64 (ao x.hi.m),.int .i64 x.hi.e]
theorem acj (x:bP):fe (.agg (iD x))=x:=dq x.lo x.hi
def s0:bC where
 pre:=fun ds=>∃x y:bP,ds=[aA x,aA y]
 res:=fun ds=>match ds with
  |[.agg xs,.agg aB]=> .fn 108 [] [.ptr xs,.ptr aB]
  |_=> .nilp
theorem FI (Γ:Env) (ds:List D) (h:s0.pre ds):bT Γ UH UI ds fun d=>d=s0.res ds:=by
 obtain⟨x,y,rfl⟩:=h
 simp (maxSteps:=2000000) only[↓al,ak,↓reduceIte,reduceCtorEq,Nat.reduceEqDiff,Nat.reduceLeDiff,Nat.reduceSub,Nat.reduceAdd,Int.reduceToNat,Nat.reducePow,Int.reducePow,Int.reduceLE,Int.reduceLT,IntKind.bits,UH,UI,s0,aA]
def C2 (x y:bP) (k:Nat):a6:=cD (if k<2 then x.lo else x.hi) (if k % 2=0 then y.lo else y.hi)
def wV:qG where
 pre:=fun ds=>∃x y:bP,ds=[.ptr (iD x),.ptr (iD y)]∧hj x∧hj y
 seq:=fun ds k=>match ds with
  |[.ptr xs,.ptr aB]=>if k<4 then some [aI (C2 (fe (.agg xs)) (fe (.agg aB)) k)]else none
  |_=>none
def uF (u:a6) (s:St):Prop:=s.ag 5= .box 5 0∧∃e,s.az 5=some ⟨false,e,.cells [.d (.bool u.neg),.d (.ints .i64 (ao u.m)),.d (.int .i64 u.e)]⟩
theorem Eo (Γ:Env) (f109:Γ.fn 109=some q3) (anc:Γ.mt 109=none) (ds:List D) (h:wV.pre ds) (M L:Nat):DB Γ (wV.seq ds) M L Ru ds:=by
 obtain⟨x,y,rfl,aj,hy⟩:=h
 have eN:∀k,k<4→wV.seq [.ptr (iD x),.ptr (iD y)] k=some [aI (C2 x y k)]:=fun k af=>by
  simp only[wV,if_pos af,acj]
 have agc:wV.seq [.ptr (iD x),.ptr (iD y)] 4=none:=rfl
 generalize wV.seq [.ptr (iD x),.ptr (iD y)]=E at eN agc⊢
 have tb:(vH L [.ptr (iD x),.ptr (iD y)]).ag 0= .dF L:=rfl
 have s1:(vH L [.ptr (iD x),.ptr (iD y)]).ag 1= .d (.ptr [.bool x.lo.neg,.ints .i64 (ao x.lo.m),.int .i64 x.lo.e,.bool x.hi.neg,.ints .i64 (ao x.hi.m),.int .i64 x.hi.e]):=rfl
 have s2:(vH L [.ptr (iD x),.ptr (iD y)]).ag 2= .d (.ptr [.bool y.lo.neg,.ints .i64 (ao y.lo.m),.int .i64 y.lo.e,.bool y.hi.neg,.ints .i64 (ao y.hi.m),.int .i64 y.hi.e]):=rfl
 unfold DB Ru
 generalize vH L [.ptr (iD x),.ptr (iD y)]=s at tb s1 s2⊢
 obtain⟨X,jv⟩:∃X:List (List D),X=[[.bool x.lo.neg,.ints .i64 (ao x.lo.m),.int .i64 x.lo.e],[.bool x.hi.neg,.ints .i64 (ao x.hi.m),.int .i64 x.hi.e]]:=⟨_,rfl⟩
 obtain⟨Y,iV⟩:∃Y:List (List D),Y=[[.bool y.lo.neg,.ints .i64 (ao y.lo.m),.int .i64 y.lo.e],[.bool y.hi.neg,.ints .i64 (ao y.hi.m),.int .i64 y.hi.e]]:=⟨_,rfl⟩
 have asy:X.length=2:=by rw[jv];rfl
 have asz:Y.length=2:=by rw[iV];rfl
 refine tm (fun s=>s.ag 0= .dF L∧s.ag 2= .d (.ptr [.bool y.lo.neg,.ints .i64 (ao y.lo.m),.int .i64 y.lo.e,.bool y.hi.neg,.ints .i64 (ao y.hi.m),.int .i64 y.hi.e])∧s.ag 12= .d (.recs 3 X)∧s.ag 13= .d (.int .i64 2)∧s.ag 14= .d (.int .i64 0)) rfl ?_ ?_
 ·simp (maxSteps:=2000000) only[↓al,ak,↓reduceIte,reduceCtorEq,Nat.reduceEqDiff,Nat.reduceLeDiff,Nat.reduceSub,Nat.reduceAdd,Int.reduceToNat,Nat.reducePow,Int.reducePow,Int.reduceLE,Int.reduceLT,IntKind.bits,tb,s1,s2,jv]
  first|done|rfl
 clear tb s1 s2
 rintro s ⟨h0,h2,b9,cH,dz⟩
 refine GG ?_
 refine OT (fun z s=>∃i:Nat,i≤2∧z=⟨2*i,true⟩∧s.ag 0= .dF L∧s.ag 2= .d (.ptr [.bool y.lo.neg,.ints .i64 (ao y.lo.m),.int .i64 y.lo.e,.bool y.hi.neg,.ints .i64 (ao y.hi.m),.int .i64 y.hi.e])∧s.ag 12= .d (.recs 3 X)∧s.ag 13= .d (.int .i64 2)∧s.ag 14= .d (.int .i64 i)) (fun z _=>4 - z.k) ⟨0,by omega,rfl,h0,h2,b9,cH,dz⟩ ?_
 clear h0 h2 b9 cH dz
 rintro z s ⟨i,hi,rfl,h0,h2,b9,cH,dz⟩
 refine tm (fun s=>s.ag 15= .d (.bool (decide ((i:Int)<2)))∧s.ag 0= .dF L∧s.ag 2= .d (.ptr [.bool y.lo.neg,.ints .i64 (ao y.lo.m),.int .i64 y.lo.e,.bool y.hi.neg,.ints .i64 (ao y.hi.m),.int .i64 y.hi.e])∧s.ag 12= .d (.recs 3 X)∧s.ag 13= .d (.int .i64 2)∧s.ag 14= .d (.int .i64 i)) rfl ?_ ?_
 ·simp (maxSteps:=2000000) only[↓al,ak,↓reduceIte,reduceCtorEq,Nat.reduceEqDiff,Nat.reduceLeDiff,Nat.reduceSub,Nat.reduceAdd,Int.reduceToNat,Nat.reducePow,Int.reducePow,Int.reduceLE,Int.reduceLT,IntKind.bits,h0,h2,b9,cH,dz]
 clear h0 h2 b9 cH dz
 rintro s ⟨hq,h0,h2,b9,cH,dz⟩
 by_cases ci:(i:Int)<2
 rotate_left
 ·have VH:i=2:=by omega
  subst VH
  rw[decide_eq_false ci]at hq
  refine tm (fun _=>False) rfl ?_ (fun s h=>h.elim)
  simp (maxSteps:=2000000) only[↓al,ak,↓reduceIte,reduceCtorEq,Nat.reduceEqDiff,Nat.reduceLeDiff,Nat.reduceSub,Nat.reduceAdd,Int.reduceToNat,Nat.reducePow,Int.reducePow,Int.reduceLE,Int.reduceLT,IntKind.bits,hq]
  exact agc
 rw[decide_eq_true ci]at hq
 have uo:i<2:=by omega
 refine tm (fun s=>s.ag 0= .dF L∧s.ag 2= .d (.ptr [.bool y.lo.neg,.ints .i64 (ao y.lo.m),.int .i64 y.lo.e,.bool y.hi.neg,.ints .i64 (ao y.hi.m),.int .i64 y.hi.e])∧s.ag 12= .d (.recs 3 X)∧s.ag 13= .d (.int .i64 2)∧s.ag 14= .d (.int .i64 i)) rfl ?_ ?_
 ·simp (maxSteps:=2000000) only[↓al,ak,↓reduceIte,reduceCtorEq,Nat.reduceEqDiff,Nat.reduceLeDiff,Nat.reduceSub,Nat.reduceAdd,Int.reduceToNat,Nat.reducePow,Int.reducePow,Int.reduceLE,Int.reduceLT,IntKind.bits,hq,h0,h2,b9,cH,dz]
 clear h0 h2 b9 cH dz hq
 rintro s ⟨h0,h2,b9,cH,dz⟩
 obtain⟨u,hu⟩:∃u:a6,u=if 2*i<2 then x.lo else x.hi:=⟨_,rfl⟩
 have aps:bO u:=by rw[hu];split;exact aj.1;exact aj.2
 have apt:X.getD i []=[.bool u.neg,.ints .i64 (ao u.m),.int .i64 u.e]:=by
  rw[jv,hu]
  rcases (by omega:i=0∨i=1)with rfl|rfl<;>rfl
 have apu:i<X.length:=by omega
 have aru:(i:Int)<X.length:=by omega
 show fI Γ E M L (.seq _ _) _ _ _
 refine CZ (fun z s=>z=⟨2*i+2,true⟩∧s.ag 0= .dF L∧s.ag 2= .d (.ptr [.bool y.lo.neg,.ints .i64 (ao y.lo.m),.int .i64 y.lo.e,.bool y.hi.neg,.ints .i64 (ao y.hi.m),.int .i64 y.hi.e])∧s.ag 12= .d (.recs 3 X)∧s.ag 13= .d (.int .i64 2)∧s.ag 14= .d (.int .i64 i)) ?_ ?_
 rotate_left
 ·clear h0 h2 b9 cH dz
  rintro z s ⟨rfl,h0,h2,b9,cH,dz⟩
  refine qJ _ rfl ?_
  simp (maxSteps:=2000000) only[↓al,ak,↓reduceIte,reduceCtorEq,Nat.reduceEqDiff,Nat.reduceLeDiff,Nat.reduceSub,Nat.reduceAdd,Int.reduceToNat,Nat.reducePow,Int.reducePow,Int.reduceLE,Int.reduceLT,IntKind.bits,h0,h2,b9,cH,dz]
  exact⟨by simp only[aO];omega,⟨i+1,by omega,rfl,rfl⟩,by omega⟩
 refine GG ?_
 refine tm (fun s=>s.ag 5= .box 5 0∧s.az 5=some ⟨false,false,.cells [.d (.bool u.neg),.d (.ints .i64 (ao u.m)),.d (.int .i64 u.e)]⟩∧s.ag 0= .dF L∧s.ag 2= .d (.ptr [.bool y.lo.neg,.ints .i64 (ao y.lo.m),.int .i64 y.lo.e,.bool y.hi.neg,.ints .i64 (ao y.hi.m),.int .i64 y.hi.e])∧s.ag 12= .d (.recs 3 X)∧s.ag 13= .d (.int .i64 2)∧s.ag 14= .d (.int .i64 i)) rfl ?_ ?_
 ·simp (maxSteps:=2000000) only[↓al,ak,↓reduceIte,reduceCtorEq,Nat.reduceEqDiff,Nat.reduceLeDiff,Nat.reduceSub,Nat.reduceAdd,Int.reduceToNat,Nat.reducePow,Int.reducePow,Int.reduceLE,Int.reduceLT,IntKind.bits,h0,h2,b9,cH,dz,aru,apu,apt,Int.toNat_natCast,Hg,GP]
  first|done|omega
 clear h0 h2 b9 cH dz
 rintro s ⟨aF,bm,h0,h2,b9,cH,dz⟩
 refine tm (fun s=>s.ag 22= .d (.recs 3 Y)∧s.ag 23= .d (.int .i64 2)∧s.ag 24= .d (.int .i64 0)∧s.ag 5= .box 5 0∧s.az 5=some ⟨false,false,.cells [.d (.bool u.neg),.d (.ints .i64 (ao u.m)),.d (.int .i64 u.e)]⟩∧s.ag 0= .dF L∧s.ag 2= .d (.ptr [.bool y.lo.neg,.ints .i64 (ao y.lo.m),.int .i64 y.lo.e,.bool y.hi.neg,.ints .i64 (ao y.hi.m),.int .i64 y.hi.e])∧s.ag 12= .d (.recs 3 X)∧s.ag 13= .d (.int .i64 2)∧s.ag 14= .d (.int .i64 i)) rfl ?_ ?_
 ·simp (maxSteps:=2000000) only[↓al,ak,↓reduceIte,reduceCtorEq,Nat.reduceEqDiff,Nat.reduceLeDiff,Nat.reduceSub,Nat.reduceAdd,Int.reduceToNat,Nat.reducePow,Int.reducePow,Int.reduceLE,Int.reduceLT,IntKind.bits,h0,h2,b9,cH,dz,aF,bm,iV]
  first|done|rfl
 clear h0 h2 b9 cH dz aF bm
 rintro s ⟨js,jt,ha,aF,bm,h0,h2,b9,cH,dz⟩
 refine GG ?_
 refine OT (fun z s=>∃j:Nat,j≤2∧z=⟨2*i+j,true⟩∧s.ag 22= .d (.recs 3 Y)∧s.ag 23= .d (.int .i64 2)∧s.ag 24= .d (.int .i64 j)∧uF u s∧s.ag 0= .dF L∧s.ag 2= .d (.ptr [.bool y.lo.neg,.ints .i64 (ao y.lo.m),.int .i64 y.lo.e,.bool y.hi.neg,.ints .i64 (ao y.hi.m),.int .i64 y.hi.e])∧s.ag 12= .d (.recs 3 X)∧s.ag 13= .d (.int .i64 2)∧s.ag 14= .d (.int .i64 i)) (fun z _=>4 - z.k) ⟨0,by omega,rfl,js,jt,ha,⟨aF,_,bm⟩,h0,h2,b9,cH,dz⟩ ?_
 clear h0 h2 b9 cH dz aF bm js jt ha
 rintro z s ⟨j,aH,rfl,js,jt,ha,aF,h0,h2,b9,cH,dz⟩
 refine tm (fun s=>s.ag 25= .d (.bool (decide ((j:Int)<2)))∧s.ag 22= .d (.recs 3 Y)∧s.ag 23= .d (.int .i64 2)∧s.ag 24= .d (.int .i64 j)∧uF u s∧s.ag 0= .dF L∧s.ag 2= .d (.ptr [.bool y.lo.neg,.ints .i64 (ao y.lo.m),.int .i64 y.lo.e,.bool y.hi.neg,.ints .i64 (ao y.hi.m),.int .i64 y.hi.e])∧s.ag 12= .d (.recs 3 X)∧s.ag 13= .d (.int .i64 2)∧s.ag 14= .d (.int .i64 i)) rfl ?_ ?_
 ·simp (maxSteps:=2000000) only[↓al,ak,↓reduceIte,reduceCtorEq,Nat.reduceEqDiff,Nat.reduceLeDiff,Nat.reduceSub,Nat.reduceAdd,Int.reduceToNat,Nat.reducePow,Int.reducePow,Int.reduceLE,Int.reduceLT,IntKind.bits,h0,h2,b9,cH,dz,js,jt,ha]
  exact aF
 clear h0 h2 b9 cH dz js jt ha aF
 rintro s ⟨uk,js,jt,ha,aF,h0,h2,b9,cH,dz⟩
 by_cases JI:(j:Int)<2
 rotate_left
 ·have Ix:j=2:=by omega
  subst Ix
  rw[decide_eq_false JI]at uk
  refine tm (fun _=>False) rfl ?_ (fun s h=>h.elim)
  simp (maxSteps:=2000000) only[↓al,ak,↓reduceIte,reduceCtorEq,Nat.reduceEqDiff,Nat.reduceLeDiff,Nat.reduceSub,Nat.reduceAdd,Int.reduceToNat,Nat.reducePow,Int.reducePow,Int.reduceLE,Int.reduceLT,IntKind.bits,uk,h0,h2,b9,cH,dz]
 rw[decide_eq_true JI]at uk
 have asA:j<2:=by omega
 refine tm (fun s=>s.ag 22= .d (.recs 3 Y)∧s.ag 23= .d (.int .i64 2)∧s.ag 24= .d (.int .i64 j)∧uF u s∧s.ag 0= .dF L∧s.ag 2= .d (.ptr [.bool y.lo.neg,.ints .i64 (ao y.lo.m),.int .i64 y.lo.e,.bool y.hi.neg,.ints .i64 (ao y.hi.m),.int .i64 y.hi.e])∧s.ag 12= .d (.recs 3 X)∧s.ag 13= .d (.int .i64 2)∧s.ag 14= .d (.int .i64 i)) rfl ?_ ?_
 ·simp (maxSteps:=2000000) only[↓al,ak,↓reduceIte,reduceCtorEq,Nat.reduceEqDiff,Nat.reduceLeDiff,Nat.reduceSub,Nat.reduceAdd,Int.reduceToNat,Nat.reducePow,Int.reducePow,Int.reduceLE,Int.reduceLT,IntKind.bits,uk,h0,h2,b9,cH,dz,js,jt,ha]
  exact aF
 clear h0 h2 b9 cH dz js jt ha aF uk
 rintro s ⟨js,jt,ha,aF,h0,h2,b9,cH,dz⟩
 obtain⟨v,aC⟩:∃v:a6,v=if (2*i+j) % 2=0 then y.lo else y.hi:=⟨_,rfl⟩
 have apv:bO v:=by rw[aC];split;exact hy.1;exact hy.2
 have apw:Y.getD j []=[.bool v.neg,.ints .i64 (ao v.m),.int .i64 v.e]:=by
  rw[iV,aC]
  rcases (by omega:j=0∨j=1)with rfl|rfl
  ·rw[if_pos (by omega)];rfl
  ·rw[if_neg (by omega)];rfl
 have apx:j<Y.length:=by omega
 have arv:(j:Int)<Y.length:=by omega
 have Jr:E (2*i+j)=some [aI (cD u v)]:=by
  rw[eN _ (by omega),hu,aC]
  unfold C2
  have:(2*i+j<2)↔(2*i<2):=by omega
  simp only[this]
 refine CZ (fun z s=>z=⟨2*i+j+1,true⟩∧s.ag 22= .d (.recs 3 Y)∧s.ag 23= .d (.int .i64 2)∧s.ag 24= .d (.int .i64 j)∧uF u s∧s.ag 0= .dF L∧s.ag 2= .d (.ptr [.bool y.lo.neg,.ints .i64 (ao y.lo.m),.int .i64 y.lo.e,.bool y.hi.neg,.ints .i64 (ao y.hi.m),.int .i64 y.hi.e])∧s.ag 12= .d (.recs 3 X)∧s.ag 13= .d (.int .i64 2)∧s.ag 14= .d (.int .i64 i)) ?_ ?_
 rotate_left
 ·clear h0 h2 b9 cH dz js jt ha aF
  rintro z s ⟨rfl,js,jt,ha,aF,h0,h2,b9,cH,dz⟩
  refine qJ _ rfl ?_
  obtain⟨aF,eg,bm⟩:=aF
  simp (maxSteps:=2000000) only[↓al,ak,↓reduceIte,reduceCtorEq,Nat.reduceEqDiff,Nat.reduceLeDiff,Nat.reduceSub,Nat.reduceAdd,Int.reduceToNat,Nat.reducePow,Int.reducePow,Int.reduceLE,Int.reduceLT,IntKind.bits,h0,h2,b9,cH,dz,js,jt,ha,aF,bm,uF]
  exact⟨by simp only[aO];omega,⟨j+1,by omega,rfl,rfl,_,rfl⟩,by omega⟩
 refine GG ?_
 refine tm (fun s=>s.ag 7= .box 7 0∧s.az 7=some ⟨false,false,.cells [.d (.bool v.neg),.d (.ints .i64 (ao v.m)),.d (.int .i64 v.e)]⟩∧s.ag 22= .d (.recs 3 Y)∧s.ag 23= .d (.int .i64 2)∧s.ag 24= .d (.int .i64 j)∧uF u s∧s.ag 0= .dF L∧s.ag 2= .d (.ptr [.bool y.lo.neg,.ints .i64 (ao y.lo.m),.int .i64 y.lo.e,.bool y.hi.neg,.ints .i64 (ao y.hi.m),.int .i64 y.hi.e])∧s.ag 12= .d (.recs 3 X)∧s.ag 13= .d (.int .i64 2)∧s.ag 14= .d (.int .i64 i)) rfl ?_ ?_
 ·obtain⟨aF,eg,bm⟩:=aF
  simp (maxSteps:=2000000) only[↓al,ak,↓reduceIte,reduceCtorEq,Nat.reduceEqDiff,Nat.reduceLeDiff,Nat.reduceSub,Nat.reduceAdd,Int.reduceToNat,Nat.reducePow,Int.reducePow,Int.reduceLE,Int.reduceLT,IntKind.bits,h0,h2,b9,cH,dz,js,jt,ha,aF,bm,arv,apx,apw,Int.toNat_natCast,Hg,GP,uF]
  ((repeat' apply And.intro)<;>first|assumption|with_reducible rfl|omega|(simp only[aO];omega)|exact⟨_,rfl⟩|exact⟨_,_,_,rfl⟩|exact⟨_,_,_,_,_,_,rfl⟩)
 clear h0 h2 b9 cH dz js jt ha aF
 rintro s ⟨aM,bb,js,jt,ha,aF,h0,h2,b9,cH,dz⟩
 have arw:q3.own=false:=rfl
 have pm:q3.pre [.agg [.bool u.neg,.ints .i64 (ao u.m),.int .i64 u.e],.agg [.bool v.neg,.ints .i64 (ao v.m),.int .i64 v.e]]:=⟨u,v,rfl,aps,apv⟩
 have JM:q3.res [.agg [.bool u.neg,.ints .i64 (ao u.m),.int .i64 u.e],.agg [.bool v.neg,.ints .i64 (ao v.m),.int .i64 v.e]]=aI (cD u v):=by simp only[q3,cd]
 obtain⟨p,a1⟩:∃p,p=cD u v:=⟨_,rfl⟩
 rw[←a1]at JM Jr
 refine CZ (fun z s=>(z=⟨2*i+j+1,true⟩∧s.ag 33= .d (.bool false)∧s.ag 22= .d (.recs 3 Y)∧s.ag 23= .d (.int .i64 2)∧s.ag 24= .d (.int .i64 j)∧uF u s∧s.ag 0= .dF L∧s.ag 2= .d (.ptr [.bool y.lo.neg,.ints .i64 (ao y.lo.m),.int .i64 y.lo.e,.bool y.hi.neg,.ints .i64 (ao y.hi.m),.int .i64 y.hi.e])∧s.ag 12= .d (.recs 3 X)∧s.ag 13= .d (.int .i64 2)∧s.ag 14= .d (.int .i64 i))∨(z=⟨2*i+j,false⟩∧s.ag 33= .d (.bool true))) ?_ ?_
 rotate_left
 ·clear h0 h2 b9 cH dz js jt ha aF aM bb
  rintro z s (⟨rfl,Cb,js,jt,ha,aF,h0,h2,b9,cH,dz⟩|⟨rfl,Cb⟩)
  ·refine qJ _ rfl ?_
   obtain⟨aF,eg,bm⟩:=aF
   simp (maxSteps:=2000000) only[↓al,ak,↓reduceIte,reduceCtorEq,Nat.reduceEqDiff,Nat.reduceLeDiff,Nat.reduceSub,Nat.reduceAdd,Int.reduceToNat,Nat.reducePow,Int.reducePow,Int.reduceLE,Int.reduceLT,IntKind.bits,Cb,h0,h2,b9,cH,dz,js,jt,ha,aF,bm,uF]
   ((repeat' apply And.intro)<;>first|assumption|with_reducible rfl|omega|(simp only[aO];omega)|exact⟨_,rfl⟩|exact⟨_,_,_,rfl⟩|exact⟨_,_,_,_,_,_,rfl⟩)
  ·refine qJ _ rfl ?_
   simp (maxSteps:=2000000) only[↓al,ak,↓reduceIte,reduceCtorEq,Nat.reduceEqDiff,Nat.reduceLeDiff,Nat.reduceSub,Nat.reduceAdd,Int.reduceToNat,Nat.reducePow,Int.reducePow,Int.reduceLE,Int.reduceLT,IntKind.bits,Cb]
 show h9 Γ E M L _ _ _ _
 refine Yt 4 (fun s=>s.ag 28= .dF L∧s.ag 31= .agg [.d (.bool p.neg),.d (.ints .i64 (ao p.m)),.d (.int .i64 p.e)]∧s.ag 22= .d (.recs 3 Y)∧s.ag 23= .d (.int .i64 2)∧s.ag 24= .d (.int .i64 j)∧uF u s∧s.ag 0= .dF L∧s.ag 2= .d (.ptr [.bool y.lo.neg,.ints .i64 (ao y.lo.m),.int .i64 y.lo.e,.bool y.hi.neg,.ints .i64 (ao y.hi.m),.int .i64 y.hi.e])∧s.ag 12= .d (.recs 3 X)∧s.ag 13= .d (.int .i64 2)∧s.ag 14= .d (.int .i64 i)) rfl ?_ ?_
 ·simp only[List.take_succ_cons,List.take_zero]
  obtain⟨aF,eg,bm⟩:=aF
  simp (maxSteps:=2000000) only[↓al,ak,↓reduceIte,reduceCtorEq,Nat.reduceEqDiff,Nat.reduceLeDiff,Nat.reduceSub,Nat.reduceAdd,Int.reduceToNat,Nat.reducePow,Int.reducePow,Int.reduceLE,Int.reduceLT,IntKind.bits,h0,h2,b9,cH,dz,js,jt,ha,aF,bm,aM,bb,f109,anc,arw,pm,JM,aI,Hg,GP,uF]
  ((repeat' apply And.intro)<;>first|assumption|with_reducible rfl|omega|(simp only[aO];omega)|exact⟨_,rfl⟩|exact⟨_,_,_,rfl⟩|exact⟨_,_,_,_,_,_,rfl⟩)
 clear h0 h2 b9 cH dz js jt ha aF aM bb
 rintro s ⟨Js,apy,js,jt,ha,aF,h0,h2,b9,cH,dz⟩
 show h9 Γ E M L _ [⟨some 32,.hS (.t 28) [.t 31],none⟩,⟨some 33,.un .not (.t 32),none⟩] _ _
 have agd:cG s [.t 31]=[.agg [.d (.bool p.neg),.d (.ints .i64 (ao p.m)),.d (.int .i64 p.e)]]:=by simp only[cG,List.map_cons,List.map_nil,St.a3,apy]
 refine Xx (ds:=[aI p]) Js (by rw[agd];rfl) (by rw[agd];rfl) rfl Jr (fun _=> ?_) ?_
 ·have s8:=Yu h0
  have bM:=y0 h2
  have age:=y0 b9
  have agf:=y0 cH
  have agh:=y0 dz
  have agi:=y0 js
  have agj:=y0 jt
  have agk:=y0 ha
  obtain⟨aF,eg,bm⟩:=aF
  have oM:=Yv aF bm rfl
  have F4:=ZB bm rfl
  generalize s.still=dM at s8 bM age agf agh agi agj agk oM F4⊢
  refine AB rfl ?_
  simp (maxSteps:=2000000) only[↓al,ak,↓reduceIte,reduceCtorEq,Nat.reduceEqDiff,Nat.reduceLeDiff,Nat.reduceSub,Nat.reduceAdd,Int.reduceToNat,Nat.reducePow,Int.reducePow,Int.reduceLE,Int.reduceLT,IntKind.bits,s8,bM,age,agf,agh,agi,agj,agk,oM,F4,Bool.not_true,uF]
  first|done|(refine .inl ⟨_,rfl⟩;done)|simp
 ·refine AB rfl ?_
  simp (maxSteps:=2000000) only[↓al,ak,↓reduceIte,reduceCtorEq,Nat.reduceEqDiff,Nat.reduceLeDiff,Nat.reduceSub,Nat.reduceAdd,Int.reduceToNat,Nat.reducePow,Int.reducePow,Int.reduceLE,Int.reduceLT,IntKind.bits,Bool.not_false]
  first|done|simp
def j8 (x y:bP):List a6:=[cD x.lo y.lo,cD x.lo y.hi,cD x.hi y.lo,cD x.hi y.hi]
def cP (x y:bP):bP:=⟨er gA (cD x.lo y.lo) [cD x.lo y.hi,cD x.hi y.lo,cD x.hi y.hi],er gB (cD x.lo y.lo) [cD x.lo y.hi,cD x.hi y.lo,cD x.hi y.hi]⟩
theorem ai7 (x y:bP) {k:Nat} (af:k<4):((j8 x y).take k).map jY++[jY (C2 x y k)]=((j8 x y).take (k+1)).map jY:=by
 rcases (by omega:k=0∨k=1∨k=2∨k=3)with rfl|rfl|rfl|rfl<;>rfl
def cO (x:a6):Prop:=x.win (-25000) 25000
theorem Hj {x y:a6} (aj:cO x) (hy:cO y):bO (cD x y):=AR aj hy
def F8 (i:bP):Prop:=cO i.lo∧cO i.hi
theorem Di {x:a6} (h:cO x):bO x:=win.up h (by omega) (by omega)
def uq:bC where
 pre:=fun ds=>∃x y:bP,ds=[aA x,aA y]∧F8 x∧F8 y
 res:=fun ds=>match ds with
  |[p,q]=>aA (cP (fe p) (fe q))
  |_=> .nilp
def q8:Nat→Option qG:=fun f=>if f=108 then some wV else none
theorem FJ (Γ:Env) (f70:Γ.fn 70=some s0) (apz:Γ.mt 70=none) (f71:Γ.fn 71=some qv) (apA:Γ.mt 71=none) (f72:Γ.fn 72=some qw) (apB:Γ.mt 72=none) (ds:List D) (h:uq.pre ds):Dz Γ q8 TQ TR ds fun d=>d=uq.res ds:=by
 obtain⟨x,y,rfl,⟨eu,e5⟩,⟨g0,kN⟩⟩:=h
 have cu:uq.res [aA x,aA y]=aA (cP x y):=by simp only[uq,aA,aZ,dq]
 rw[cu]
 unfold Dz TQ
 refine xQ (fun s=>s.ag 2= .box 2 0∧s.az 2=some ⟨false,false,.cells [.d (.bool x.lo.neg),.d (.ints .i64 (ao x.lo.m)),.d (.int .i64 x.lo.e),.d (.bool x.hi.neg),.d (.ints .i64 (ao x.hi.m)),.d (.int .i64 x.hi.e)]⟩∧s.ag 3= .box 3 0∧s.az 3=some ⟨false,false,.cells [.d (.bool y.lo.neg),.d (.ints .i64 (ao y.lo.m)),.d (.int .i64 y.lo.e),.d (.bool y.hi.neg),.d (.ints .i64 (ao y.hi.m)),.d (.int .i64 y.hi.e)]⟩∧s.ag 4= .box 4 0∧∃bN bs bq fm e2 e3,s.az 4=some ⟨false,false,.cells [.d bN,.d bs,.d bq,.d fm,.d e2,.d e3]⟩) ?_ ?_
 ·show cp Γ _ _ _
  simp (maxSteps:=2000000) only[↓al,ak,↓reduceIte,reduceCtorEq,Nat.reduceEqDiff,Nat.reduceLeDiff,Nat.reduceSub,Nat.reduceAdd,Int.reduceToNat,Nat.reducePow,Int.reducePow,Int.reduceLE,Int.reduceLT,IntKind.bits,aA]
  exact⟨_,_,_,_,_,_,rfl⟩
 rintro s ⟨h2,aR,aq,aW,aE,bN,bs,bq,fm,e2,e3,aS⟩
 refine xQ (fun s=>s.ag 5= .box 5 0∧s.az 5=some ⟨false,false,.cells [.own 500005 0 0]⟩∧s.az 500005=some ⟨false,false,.recs 3 []⟩∧s.ag 2= .box 2 0∧s.az 2=some ⟨false,false,.cells [.d (.bool x.lo.neg),.d (.ints .i64 (ao x.lo.m)),.d (.int .i64 x.lo.e),.d (.bool x.hi.neg),.d (.ints .i64 (ao x.hi.m)),.d (.int .i64 x.hi.e)]⟩∧s.ag 3= .box 3 0∧s.az 3=some ⟨false,false,.cells [.d (.bool y.lo.neg),.d (.ints .i64 (ao y.lo.m)),.d (.int .i64 y.lo.e),.d (.bool y.hi.neg),.d (.ints .i64 (ao y.hi.m)),.d (.int .i64 y.hi.e)]⟩∧s.ag 4= .box 4 0∧∃bN bs bq fm e2 e3,s.az 4=some ⟨false,false,.cells [.d bN,.d bs,.d bq,.d fm,.d e2,.d e3]⟩) ?_ ?_
 ·simp only[iM]
  simp (maxSteps:=2000000) only[↓al,ak,↓reduceIte,reduceCtorEq,Nat.reduceEqDiff,Nat.reduceLeDiff,Nat.reduceSub,Nat.reduceAdd,Int.reduceToNat,Nat.reducePow,Int.reducePow,Int.reduceLE,Int.reduceLT,IntKind.bits,h2,aR,aq,aW,aE,aS]
  exact⟨_,_,_,_,_,_,rfl⟩
 clear h2 aR aq aW aE aS
 rintro s ⟨aF,bm,ur,h2,aR,aq,aW,aE,bN,bs,bq,fm,e2,e3,aS⟩
 obtain⟨rows,jE⟩:∃rows,rows=(j8 x y).map jY:=⟨_,rfl⟩
 refine xQ (fun s=>s.ag 4= .box 4 0∧(∃bN bs bq fm e2 e3,s.az 4=some ⟨false,false,.cells [.d bN,.d bs,.d bq,.d fm,.d e2,.d e3]⟩)∧s.ag 5= .box 5 0∧s.az 5=some ⟨false,false,.cells [.d (.recs 3 rows)]⟩) ?_ ?_
 ·refine xQ (fun s=>s.ag 9= .d (.fn 108 [] [.ptr (iD x),.ptr (iD y)])∧s.ag 5= .box 5 0∧s.az 5=some ⟨false,false,.cells [.own 500005 0 0]⟩∧s.az 500005=some ⟨false,false,.recs 3 []⟩∧s.ag 4= .box 4 0∧∃bN bs bq fm e2 e3,s.az 4=some ⟨false,false,.cells [.d bN,.d bs,.d bq,.d fm,.d e2,.d e3]⟩) ?_ ?_
  ·show cp Γ _ _ _
   have Ap:s0.own=false:=rfl
   have hN:s0.pre [aA x,aA y]:=⟨x,y,rfl⟩
   have rc:s0.res [aA x,aA y]= .fn 108 [] [.ptr (iD x),.ptr (iD y)]:=rfl
   simp only[aA,aZ]at hN rc
   simp (maxSteps:=2000000) only[↓al,ak,↓reduceIte,reduceCtorEq,Nat.reduceEqDiff,Nat.reduceLeDiff,Nat.reduceSub,Nat.reduceAdd,Int.reduceToNat,Nat.reducePow,Int.reducePow,Int.reduceLE,Int.reduceLT,IntKind.bits,h2,aR,aq,aW,aE,aS,aF,bm,ur,f70,apz,Ap,hN,rc,iD]
   exact⟨_,_,_,_,_,_,rfl⟩
  clear h2 aR aq aW aE aS aF bm ur
  rintro s ⟨bd,aF,bm,ur,aE,bN,bs,bq,fm,e2,e3,aS⟩
  have oL:q8 108=some wV:=rfl
  have HW:∀k,wV.seq [.ptr (iD x),.ptr (iD y)] k=if k<4 then some [aI (C2 x y k)]else none:=fun k=>by simp only[wV,acj]
  simp only[iM,St.a3,bd,oL]
  refine⟨⟨x,y,rfl,⟨Di eu,Di e5⟩,⟨Di g0,Di kN⟩⟩,fun k s=>k≤4∧s.ag 5= .box 5 0∧s.az 5=some ⟨false,false,.cells [.own 500005 0 k]⟩∧s.az 500005=some ⟨false,false,.recs 3 (((j8 x y).take k).map jY)⟩∧s.ag 4= .box 4 0∧∃bN bs bq fm e2 e3,s.az 4=some ⟨false,false,.cells [.d bN,.d bs,.d bq,.d fm,.d e2,.d e3]⟩,5,by omega,⟨by omega,?_,bm,ur,?_,_,_,_,_,_,_,aS⟩,?_,?_⟩
  ·simp only[St.only];rw[if_neg (by decide)];exact aF
  ·simp only[St.only];rw[if_neg (by decide)];exact aE
  ·clear bd aF bm ur aE aS
   rintro k xs s af pL ⟨apC,aF,bm,ur,aE,bN,bs,bq,fm,e2,e3,aS⟩
   rw[HW]at pL
   split at pL
   rotate_left
   ·cases pL
   rename_i ane
   simp only[Option.some.injEq]at pL
   subst pL
   refine⟨rfl,?_⟩
   obtain⟨p,a1⟩:∃p,p=C2 x y k:=⟨_,rfl⟩
   rw[←a1]
   have kG:=ai7 x y ane
   rw[←a1]at kG
   obtain⟨R,en⟩:∃R,R=((j8 x y).take k).map jY:=⟨_,rfl⟩
   have agl:R.length=k:=by
    rw[en,List.length_map,List.length_take,show (j8 x y).length=4 from rfl];omega
   rw[←en]at kG ur
   simp only[HM]
   have NA:((s.put (some 10) (dn (aI p))).ag 10)= .agg [.d (.bool p.neg),.d (.ints .i64 (ao p.m)),.d (.int .i64 p.e)]:=rfl
   have eg:(s.put (some 10) (dn (aI p))).ag 5= .box 5 0:=aF
   have cW:(s.put (some 10) (dn (aI p))).ag 4= .box 4 0:=aE
   have f5:(s.put (some 10) (dn (aI p))).az 5=some ⟨false,false,.cells [.own 500005 0 k]⟩:=bm
   have f50:(s.put (some 10) (dn (aI p))).az 500005=some ⟨false,false,.recs 3 R⟩:=ur
   have f4:(s.put (some 10) (dn (aI p))).az 4=some ⟨false,false,.cells [.d bN,.d bs,.d bq,.d fm,.d e2,.d e3]⟩:=aS
   generalize s.put (some 10) (dn (aI p))=t at NA eg cW f5 f50 f4⊢
   clear aF bm ur aE aS s
   have arx:AL [jY p]=true:=rfl
   simp only[jY]at arx kG
   simp (maxSteps:=2000000) only[↓al,ak,↓reduceIte,reduceCtorEq,Nat.reduceEqDiff,Nat.reduceLeDiff,Nat.reduceSub,Nat.reduceAdd,Int.reduceToNat,Nat.reducePow,Int.reducePow,Int.reduceLE,Int.reduceLT,IntKind.bits,NA,eg,cW,f5,f50,f4,K9,La,List.contains_cons,List.contains_nil,Nat.reduceBEq,Nat.reduceBeqDiff,Bool.or_false,Bool.false_eq_true]
   have aJ:(R++[[D.bool p.neg,D.ints IntKind.i64 (ao p.m),D.int IntKind.i64 p.e]]).length=k+1:=by rw[List.length_append,agl];rfl
   rw[aJ,kG]
   exact⟨agl.symm,by simp only[b4];omega,⟨by omega,rfl,rfl,_,_,_,_,_,_,rfl⟩,by omega⟩
  ·rintro k s pL ⟨apC,aF,bm,ur,aE,bN,bs,bq,fm,e2,e3,aS⟩
   rw[HW]at pL
   have af:k=4:=by
    split at pL
    ·cases pL
    ·omega
   subst af
   refine⟨some 500005,⟨_,ur,rfl⟩,?_⟩
   have aL:toD s (.own 500005 0 4)=some (.recs 3 rows):=by
    simp only[toD,ur,BC.part]
    rw[if_pos (by simp[j8])]
    rw[jE];rfl
   refine⟨?_,⟨bN,bs,bq,fm,e2,e3,?_⟩,?_,?_⟩
   ·simp only[St.iu,aE,ai.iu];rw[if_neg (by decide)]
   ·simp only[St.iu,aS]
    rfl
   ·simp only[St.iu,aF,ai.iu];rw[if_neg (by decide)]
   ·simp only[St.iu,bm,Option.map_some,cr.gJ,BC.gJ,List.map_cons,List.map_nil,ai.iu,aL,dn]
    rfl
 ·rintro s ⟨aE,⟨bN,bs,bq,fm,e2,e3,aS⟩,aF,bm⟩
  show cp Γ _ _ _
  have N6:qv.own=false:=rfl
  have WD:qw.own=false:=rfl
  have hW:∀z∈j8 x y,bO z:=fun z br=>by
   simp only[j8,List.mem_cons,List.not_mem_nil,or_false]at br
   rcases br with rfl|rfl|rfl|rfl
   ·exact Hj eu g0
   ·exact Hj eu kN
   ·exact Hj e5 g0
   ·exact Hj e5 kN
  have pi:qv.pre [.recs 3 rows,.fn 57 [] []]:=⟨cD x.lo y.lo,[cD x.lo y.hi,cD x.hi y.lo,cD x.hi y.hi],by rw[jE];rfl,hW,by simp⟩
  have pa:qw.pre [.recs 3 rows,.fn 57 [] []]:=⟨cD x.lo y.lo,[cD x.lo y.hi,cD x.hi y.lo,cD x.hi y.hi],by rw[jE];rfl,hW,by simp⟩
  obtain⟨m,hm⟩:∃m,m=cP x y:=⟨_,rfl⟩
  have aD:qv.res [.recs 3 rows,.fn 57 [] []]=aI m.lo:=by
   simp only[qv,jE,Hi,j8,hm,cP]
  have oR:qw.res [.recs 3 rows,.fn 57 [] []]=aI m.hi:=by
   simp only[qw,jE,Hi,j8,hm,cP]
  rw[←hm]
  simp (maxSteps:=2000000) only[↓al,ak,↓reduceIte,reduceCtorEq,Nat.reduceEqDiff,Nat.reduceLeDiff,Nat.reduceSub,Nat.reduceAdd,Int.reduceToNat,Nat.reducePow,Int.reducePow,Int.reduceLE,Int.reduceLT,IntKind.bits,TR,aA,aI,aE,aS,aF,bm,f71,apA,f72,apB,N6,WD,pi,pa,aD,oR]
def x2:bC where
 pre:=fun ds=>∃m:Nat,ds=[aZ m]∧(ao m).length≤8000
 res:=fun ds=>match ds with
  |[.ints _ xs]=>aZ (a5 (val xs))
  |_=> .nilp
theorem ZQ {R m k:Nat} (h1:R*R≤m) (h2:m<(R+2^(k+1))*(R+2^(k+1))):
 ((R+2^k)*(R+2^k)≤m→m<(R+2^k+2^k)*(R+2^k+2^k)):=fun _=>by
 rw[show R+2^k+2^k=R+2^(k+1)by rw[Nat.pow_succ];omega];exact h2
theorem akY {R m:Nat} (h:R*R≤m):2*bp R≤bp m+1:=by
 by_cases h0:R=0
 ·subst h0;rw[eE];omega
 ·have:=air h0 h0
  have:=yU h
  omega
theorem anf (Γ:Env) (BB:Γ.has 104 lg) (Cc:Γ.has 91 iB) (xb:Γ.has 89 hY) (Cd:Γ.has 94 ly) (NH:Γ.has 92 fJ) (ds:List D) (h:x2.pre ds):bT Γ Rq Rr ds fun d=>d=x2.res ds:=by
 obtain⟨m,rfl,aJ⟩:=h
 have yG:lg.pre [.ints .i64 (ao m)]:=⟨m,rfl,by omega⟩
 have yH:lg.res [.ints .i64 (ao m)]= .int .i64 (bp m):=by simp only[lg,b5]
 have as7:=Ay m
 obtain⟨K,cj⟩:∃K:Nat,(bp m+1) / 2=K:=⟨_,rfl⟩
 have a7:((bp m:Int)+1).tdiv 2=K:=by rw[Int.tdiv_eq_ediv_of_nonneg (by omega)];omega
 have c7:ao 1=[1]:=by decide+kernel
 have cu:x2.res [aZ m]=aZ (a5 m):=by simp only[x2,b5,aZ]
 rw[cu]
 simp (maxSteps:=2000000) only[↓al,ak,↓reduceIte,reduceCtorEq,Nat.reduceEqDiff,Nat.reduceLeDiff,Nat.reduceSub,Nat.reduceAdd,Int.reduceToNat,Nat.reducePow,Int.reducePow,Int.reduceLE,Int.reduceLT,IntKind.bits,Rq,Rr]
 refine bZ (fun s=>∃R:Nat,R*R≤m∧m<(R+1)*(R+1)∧(s.ag 3= .d (.ints .i64 (ao R))∨R=0∧s.ag 3= .own 3 0 0∧∃z,s.az 3=some ⟨z,false,.ints .i64 []⟩)) ?_ ?_
 ·simp (maxSteps:=2000000) only[↓al,ak,↓reduceIte,reduceCtorEq,Nat.reduceEqDiff,Nat.reduceLeDiff,Nat.reduceSub,Nat.reduceAdd,Int.reduceToNat,Nat.reducePow,Int.reducePow,Int.reduceLE,Int.reduceLT,IntKind.bits,BB,yG,yH,a7]
  repeat (refine And.intro (by first|omega|(simp only[aO];omega)|(simp only[aO]at*;omega)|(simp only[List.length_append,List.length_cons,List.length_nil,List.length_set,b4];omega)) ?_)
  refine fp (fun s=>∃(R:Nat) (k:Int),s.ag 0= .d (.ints .i64 (ao m))∧s.ag 4= .d (.int .i64 k)∧-1≤k∧k≤K∧R*R≤m∧m<(R+2^(k+1).toNat)*(R+2^(k+1).toNat)∧(s.ag 3= .d (.ints .i64 (ao R))∨R=0∧s.ag 3= .own 3 0 0∧∃z,s.az 3=some ⟨z,false,.ints .i64 []⟩)) (fun s=>match s.ag 4 with| .d (.int _ k)=>(k+1).toNat|_=>0) ?_ ?_
  ·refine⟨0,K,?_⟩
   simp (maxSteps:=2000000) only[↓al,ak,↓reduceIte,reduceCtorEq,Nat.reduceEqDiff,Nat.reduceLeDiff,Nat.reduceSub,Nat.reduceAdd,Int.reduceToNat,Nat.reducePow,Int.reducePow,Int.reduceLE,Int.reduceLT,IntKind.bits]
   refine⟨by omega,Int.le_refl _,Nat.zero_le _,?_,_,rfl⟩
   rw[←Nat.pow_add]
   exact Nat.lt_of_lt_of_le (k4 m) (Nat.pow_le_pow_right (by decide) (by omega))
  ·rintro s ⟨R,k,h0,aE,af,cn,en,hm,aq⟩
   by_cases c:k≥0
   ·obtain⟨j,rfl⟩:∃j:Nat,k=j:=⟨k.toNat,by omega⟩
    have a4:((j:Int)+1).toNat=j+1:=by omega
    have bc:((j:Int) - 1+1).toNat=j:=by omega
    rw[a4]at hm
    obtain⟨T,cf⟩:∃T,T=R+2^j:=⟨_,rfl⟩
    have ahw:=akY en
    have h2:bp (2^j)=j+1:=by have:=p2 (n:=1) (by decide) j;rw[Nat.one_mul]at this;rw[this,show bp 1=1 from rfl];omega
    have JL:bp T≤K+2:=by
     have:=AE R (2^j)
     rw[cf]
     omega
    have WI:=fo T
    have ahx:=fo R
    have as8:=fo (2^j)
    have v9:iB.pre [.ints .i64 [1],.int .i64 j]:=⟨[1],j,rfl,by rw[←c7];exact c5 1,by decide,by omega⟩
    have wc:iB.res [.ints .i64 [1],.int .i64 j]= .ints .i64 (ao (2^j)):=by simp only[iB,←c7,b5,Int.toNat_natCast,Nat.one_mul,aZ]
    have xv:∀xs,xs=ao R→hY.pre [.ints .i64 xs,.ints .i64 (ao (2^j))]:=fun xs e=>by subst e;exact⟨_,_,rfl,c5 _,c5 _,by omega,by omega⟩
    have xw:∀xs,xs=ao R→hY.res [.ints .i64 xs,.ints .i64 (ao (2^j))]= .ints .i64 (ao T):=fun xs e=>by subst e;simp only[hY,b5,aZ,cf]
    have asB:=CH T T
    have asC:=fo (T*T)
    have yI:ly.pre [.ints .i64 (ao T),.ints .i64 (ao T)]:=⟨_,_,rfl,c5 _,c5 _,by omega,by omega⟩
    have F9:ly.res [.ints .i64 (ao T),.ints .i64 (ao T)]= .ints .i64 (ao (T*T)):=by simp only[ly,b5,aZ]
    have qI:fJ.pre [.ints .i64 (ao (T*T)),.ints .i64 (ao m)]:=⟨_,_,rfl,⟨_,rfl⟩,⟨_,rfl⟩,by omega,by omega⟩
    rcases aq with aq|⟨Ce,aq,z,aW⟩
    ·have xv:=xv _ rfl
     have xw:=xw _ rfl
     by_cases pW:T*T≤m
     ·have k0:∃v:Int,v≤0∧fJ.res [.ints .i64 (ao (T*T)),.ints .i64 (ao m)]= .int .i64 v:=by
       refine⟨if T*T<m then -1 else 0,by split<;>decide,?_⟩
       simp only[fJ,b5]
       rw[if_neg (by omega:¬m<T*T)]
      obtain⟨v,aC,k0⟩:=k0
      simp (maxSteps:=2000000) only[↓al,ak,↓reduceIte,reduceCtorEq,Nat.reduceEqDiff,Nat.reduceLeDiff,Nat.reduceSub,Nat.reduceAdd,Int.reduceToNat,Nat.reducePow,Int.reducePow,Int.reduceLE,Int.reduceLT,IntKind.bits,h0,aE,aq,c,Cc,v9,wc,xb,xv,xw,Cd,yI,F9,NH,qI,k0,aC]
      exact⟨by simp only[aO];omega,⟨T,_,rfl,by omega,by omega,pW,by rw[bc,cf];exact ZQ en hm (cf▸pW),rfl⟩,by omega⟩
     ·have k0:∃v:Int,¬v≤0∧fJ.res [.ints .i64 (ao (T*T)),.ints .i64 (ao m)]= .int .i64 v:=⟨1,by decide,by simp only[fJ,b5];rw[if_neg (by omega),if_pos (by omega)]⟩
      obtain⟨v,aC,k0⟩:=k0
      simp (maxSteps:=2000000) only[↓al,ak,↓reduceIte,reduceCtorEq,Nat.reduceEqDiff,Nat.reduceLeDiff,Nat.reduceSub,Nat.reduceAdd,Int.reduceToNat,Nat.reducePow,Int.reducePow,Int.reduceLE,Int.reduceLT,IntKind.bits,h0,aE,aq,c,Cc,v9,wc,xb,xv,xw,Cd,yI,F9,NH,qI,k0,aC]
      exact⟨by simp only[aO];omega,⟨R,_,rfl,by omega,by omega,en,by rw[bc,←cf];omega,rfl⟩,by omega⟩
    ·have xv:=xv [] (by rw[Ce,hk])
     have xw:=xw [] (by rw[Ce,hk])
     by_cases pW:T*T≤m
     ·have k0:∃v:Int,v≤0∧fJ.res [.ints .i64 (ao (T*T)),.ints .i64 (ao m)]= .int .i64 v:=by
       refine⟨if T*T<m then -1 else 0,by split<;>decide,?_⟩
       simp only[fJ,b5]
       rw[if_neg (by omega:¬m<T*T)]
      obtain⟨v,aC,k0⟩:=k0
      simp (maxSteps:=2000000) only[↓al,ak,↓reduceIte,reduceCtorEq,Nat.reduceEqDiff,Nat.reduceLeDiff,Nat.reduceSub,Nat.reduceAdd,Int.reduceToNat,Nat.reducePow,Int.reducePow,Int.reduceLE,Int.reduceLT,IntKind.bits,h0,aE,aq,aW,c,Cc,v9,wc,xb,xv,xw,Cd,yI,F9,NH,qI,k0,aC]
      exact⟨by simp only[aO];omega,⟨T,_,rfl,by omega,by omega,pW,by rw[bc,cf];exact ZQ en hm (cf▸pW),rfl⟩,by omega⟩
     ·have k0:∃v:Int,¬v≤0∧fJ.res [.ints .i64 (ao (T*T)),.ints .i64 (ao m)]= .int .i64 v:=⟨1,by decide,by simp only[fJ,b5];rw[if_neg (by omega),if_pos (by omega)]⟩
      obtain⟨v,aC,k0⟩:=k0
      simp (maxSteps:=2000000) only[↓al,ak,↓reduceIte,reduceCtorEq,Nat.reduceEqDiff,Nat.reduceLeDiff,Nat.reduceSub,Nat.reduceAdd,Int.reduceToNat,Nat.reducePow,Int.reducePow,Int.reduceLE,Int.reduceLT,IntKind.bits,h0,aE,aq,aW,c,Cc,v9,wc,xb,xv,xw,Cd,yI,F9,NH,qI,k0,aC]
      exact⟨by simp only[aO];omega,⟨R,_,rfl,by omega,by omega,en,by rw[bc,←cf];omega,Ce,_,rfl⟩,by omega⟩
   ·simp (maxSteps:=2000000) only[↓al,ak,↓reduceIte,reduceCtorEq,Nat.reduceEqDiff,Nat.reduceLeDiff,Nat.reduceSub,Nat.reduceAdd,Int.reduceToNat,Nat.reducePow,Int.reducePow,Int.reduceLE,Int.reduceLT,IntKind.bits,h0,aE,c]
    rw[show k= -1 by omega]at hm
    exact⟨R,en,hm,aq⟩
 ·rintro s ⟨R,h1,h2,aq⟩
  rw[ai5 h1 h2]
  rcases aq with aq|⟨rfl,aq,z,aW⟩
  ·simp (maxSteps:=2000000) only[↓al,ak,↓reduceIte,reduceCtorEq,Nat.reduceEqDiff,Nat.reduceLeDiff,Nat.reduceSub,Nat.reduceAdd,Int.reduceToNat,Nat.reducePow,Int.reducePow,Int.reduceLE,Int.reduceLT,IntKind.bits,aq]
  ·simp (maxSteps:=2000000) only[↓al,ak,↓reduceIte,reduceCtorEq,Nat.reduceEqDiff,Nat.reduceLeDiff,Nat.reduceSub,Nat.reduceAdd,Int.reduceToNat,Nat.reducePow,Int.reducePow,Int.reduceLE,Int.reduceLT,IntKind.bits,aq,aW]
   rw[hk]
def uu:bC where
 pre:=fun ds=>∃(x:a6) (n:Int) (up:Bool),ds=[aI x,.int .i64 n,.bool up]∧bO x∧0≤n∧n≤100000
 res:=fun ds=>match ds with
  |[p,.int _ n,.bool up]=>aI (gy (eA p) n up)
  |_=> .nilp
theorem apD (Γ:Env) (BB:Γ.has 104 lg) (NI:Γ.has 88 jn) (xb:Γ.has 89 hY) (vQ:Γ.has 76 dT) (ds:List D) (h:uu.pre ds):bT Γ IL IM ds fun d=>d=uu.res ds:=by
 obtain⟨x,n,up,rfl,aj,dS,jm⟩:=h
 have ex:=kK aj
 have da:=hn aj
 have az:=jc aj
 have yG:lg.pre [.ints .i64 (ao x.m)]:=⟨x.m,rfl,by omega⟩
 have yH:lg.res [.ints .i64 (ao x.m)]= .int .i64 (bp x.m):=by simp only[lg,b5]
 have c7:ao 1=[1]:=by decide+kernel
 by_cases af:(bp x.m:Int) - n≤0
 ·have ar:gy x n up=x:=by unfold gy;rw[if_pos af]
  simp (maxSteps:=2000000) only[↓al,ak,↓reduceIte,reduceCtorEq,Nat.reduceEqDiff,Nat.reduceLeDiff,Nat.reduceSub,Nat.reduceAdd,Int.reduceToNat,Nat.reducePow,Int.reducePow,Int.reduceLE,Int.reduceLT,IntKind.bits,IL,IM,uu,aI,cd,ar,BB,yG,yH,af]
  first|done|(repeat (refine And.intro (by first|omega|(simp only[aO];omega)|(simp only[aO]at*;omega)|(simp only[List.length_append,List.length_cons,List.length_nil,List.length_set,b4];omega)) ?_);first|done|omega)
 ·obtain⟨k,qn⟩:∃k:Nat,(bp x.m:Int) - n=k:=⟨((bp x.m:Int) - n).toNat,by omega⟩
  have cn:¬(k:Int)≤0:=by omega
  obtain⟨M,cJ⟩:∃M,M=x.m / 2^k:=⟨_,rfl⟩
  have aG:=KX x.m k
  rw[←cJ]at aG
  have JK:=fo M
  have v9:jn.pre [.ints .i64 (ao x.m),.int .i64 k]:=⟨_,_,rfl,c5 _,by omega,by omega⟩
  have wc:jn.res [.ints .i64 (ao x.m),.int .i64 k]= .ints .i64 (ao M):=by simp only[jn,b5,Int.toNat_natCast,←cJ,aZ]
  have apb:=AE M 1
  have cy:bp 1=1:=rfl
  have apc:=fo (M+1)
  have xv:hY.pre [.ints .i64 (ao M),.ints .i64 [1]]:=⟨_,_,rfl,c5 _,by rw[←c7];exact c5 1,by omega,by decide⟩
  have xw:hY.res [.ints .i64 (ao M),.ints .i64 [1]]= .ints .i64 (ao (M+1)):=by simp only[hY,←c7,b5,aZ]
  have ar:gy x n up=mk x.neg (M+(if up=x.neg then 0 else 1)) (x.e+k):=by
   unfold gy
   rw[if_neg af,qn,Int.toNat_natCast,←cJ]
  have Ga:∀q,q=M∨q=M+1→dT.pre [.bool x.neg,.ints .i64 (ao q),.int .i64 (x.e+k)]:=fun q a7=>⟨_,q,_,rfl,by rcases a7 with rfl|rfl<;>omega,by omega,by omega⟩
  have ahy:∀q,dT.res [.bool x.neg,.ints .i64 (ao q),.int .i64 (x.e+k)]=aI (mk x.neg q (x.e+k)):=fun q=>by simp only[dT,b5]
  by_cases hu:up=x.neg
  ·have kF:(up !=x.neg)=false:=by rw[hu];simp
   rw[if_pos hu,Nat.add_zero]at ar
   have Ga:=Ga M (.inl rfl)
   simp (maxSteps:=2000000) only[↓al,ak,↓reduceIte,reduceCtorEq,Nat.reduceEqDiff,Nat.reduceLeDiff,Nat.reduceSub,Nat.reduceAdd,Int.reduceToNat,Nat.reducePow,Int.reducePow,Int.reduceLE,Int.reduceLT,IntKind.bits,IL,IM,uu,aI,cd,ar,BB,yG,yH,qn,cn,NI,v9,wc,kF,vQ,Ga,ahy]
   first|done|(simp only[aO];omega)
  ·have kF:(up !=x.neg)=true:=by simpa using hu
   rw[if_neg hu]at ar
   have Ga:=Ga (M+1) (.inr rfl)
   simp (maxSteps:=2000000) only[↓al,ak,↓reduceIte,reduceCtorEq,Nat.reduceEqDiff,Nat.reduceLeDiff,Nat.reduceSub,Nat.reduceAdd,Int.reduceToNat,Nat.reducePow,Int.reducePow,Int.reduceLE,Int.reduceLT,IntKind.bits,IL,IM,uu,aI,cd,ar,BB,yG,yH,qn,cn,NI,v9,wc,kF,xb,xv,xw,vQ,Ga,ahy]
   first|done|(simp only[aO];omega)
end RV.Dr
