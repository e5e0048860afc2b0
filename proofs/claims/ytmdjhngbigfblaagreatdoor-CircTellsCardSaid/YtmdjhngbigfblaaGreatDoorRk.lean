/- Lemmas for a claim: an abstract machine for the translated code, proved sound, and contracts of functions. By an AI agent. -/
import Derived.Test.YtmdjhngbigfblaaGreatDoorRj
import Derived.Test.YtmdjhngbigfblaaGreatDoorRh
set_option linter.all false
namespace RV.Dr
open Go RV
set_option linter.unusedSimpArgs false
set_option linter.unusedVariables false
set_option maxRecDepth 100000
set_option maxHeartbeats 8000000
theorem adk {b:Bool} {a n:Nat} (h:a<1152921504606846976) (aZ:a5 a≤14) (aH:n≤160):∀(k:Nat) (w:Int),0≤w→w+64*k≤800→(gV b a n k w).win (-20000) 201:=by
 have key:∀w:Int,0≤w→w≤800→(eo (ja b (dt a w)) n).win (-20000) 201:=fun w h0 h1=>by
  have hw:=uW (uV h aZ) h0 h1
  have ah:(ja b (dt a w)).win (-20000) 200:=by
   cases b
   ·exact hw.1
   ·exact hw.2
  exact⟨sA ah.1 (by omega) (by omega) (by omega),kB (sA (kB ah.2) (by omega) (by omega) (by omega))⟩
 intro k
 induction k with
 |zero=>intro w h0 h1;exact key w h0 (by omega)
 |succ k cm=>
  intro w h0 h1
  unfold gV
  split
  ·exact key w h0 (by omega)
  ·exact cm (w+64) (by omega) (by omega)
theorem OS {b:Bool} {a n:Nat} (h:a<1152921504606846976) (aZ:a5 a≤14) (aH:n≤160):(fC b a n).win (-20000) 201:=adk h aZ aH 4 _ (by omega) (by omega)
theorem acu {K Q:Int} (h:ka [.int .i64 K,.int .i64 Q]=true):∃q:Nat,Q=q∧q≤14∧aG K∧-1099511627776≤K∧K≤1099511627776:=by
 simp only[ka,Bool.and_eq_true,decide_eq_true_eq]at h
 refine⟨Q.toNat,by omega,by omega,?_,h.1.2.2.1,h.1.2.2.2⟩
 simp only[aG];omega
def wB:bq where
 pre:=fun ds=>∃(K Q n:Int) (b:Bool) (xs:List Int) (e:Int),ds=[.agg [.int .i64 K,.int .i64 Q],.int .u8 n,.agg [.bool b,.ints .i64 xs,.int .i64 e]]∧0≤n∧n<256
 res:=fun _=> .bool true
theorem si (Γ:Env) (akg:Γ.has 37 ud) (KU:Γ.has 38 sa) (VI:Γ.has 14 r2) (akh:Γ.has 39 uc) (zd:Γ.has 40 jx) (aki:Γ.has 41 qp) (KS:Γ.has 42 m4) (akj:Γ.has 43 qq) (uf:Γ.has 17 lX) (y5:Γ.has 44 iQ) (Dd:Γ.has 45 jV) (vX:Γ.has 24 hN) (ds:List D) (h:wB.pre ds):bH Γ qw wh ds fun d=>d=wB.res ds:=by
 obtain⟨K,Q,n,b,xs,e,rfl,dj,hz⟩:=h
 have cq:∀ds,wB.res ds= .bool true:=fun _=>rfl
 have alh:ud.pre []:=rfl
 have ali:ud.res []= .bool true:=rfl
 have DH:sa.pre [.recs 2 [[.int .i64 K,.int .i64 Q]]]:=⟨_,rfl,fun r aq=>by
  simp only[List.mem_cons,List.not_mem_nil,or_false]at aq
  exact⟨K,Q,aq⟩,by simp⟩
 have rg:sa.res [.recs 2 [[.int .i64 K,.int .i64 Q]]]= .bool (ka [.int .i64 K,.int .i64 Q]):=by
  simp only[sa,List.all_cons,List.all_nil,Bool.and_true]
 have KV:r2.pre [.recs 3 [[.bool b,.ints .i64 xs,.int .i64 e]]]:=⟨_,rfl,fun r aq=>by
  simp only[List.mem_cons,List.not_mem_nil,or_false]at aq
  exact⟨b,xs,e,aq⟩,by simp⟩
 have KW:r2.res [.recs 3 [[.bool b,.ints .i64 xs,.int .i64 e]]]= .bool (jg b xs e):=by
  simp only[r2,List.all_cons,List.all_nil,Bool.and_true,sO]
 rw[cq]
 rw[fP]
 unfold qw wh
 refine bX (fun s=>s.af 1= .d (.int .u8 n)∧di 3 [.d (.int .i64 K),.d (.int .i64 Q)] s∧di 5 [.d (.bool b),.d (.ints .i64 xs),.d (.int .i64 e)] s) ?_ ?_
 ·simp (maxSteps:=2000000) only[↓ak,aj,↓reduceIte,reduceCtorEq,Nat.reduceEqDiff,Nat.reduceLeDiff,Nat.reduceSub,Nat.reduceAdd,Int.reduceToNat,Nat.reducePow,Int.reducePow,Int.reduceLE,Int.reduceLT,IntKind.bits,di]
 rintro s ⟨h1,⟨al,aW⟩,aI,a9⟩
 refine bX (fun s=>s.af 7= .d (.bool true)∧s.af 1= .d (.int .u8 n)∧di 3 [.d (.int .i64 K),.d (.int .i64 Q)] s∧di 5 [.d (.bool b),.d (.ints .i64 xs),.d (.int .i64 e)] s) ?_ ?_
 ·simp (maxSteps:=2000000) only[↓ak,aj,↓reduceIte,reduceCtorEq,Nat.reduceEqDiff,Nat.reduceLeDiff,Nat.reduceSub,Nat.reduceAdd,Int.reduceToNat,Nat.reducePow,Int.reducePow,Int.reduceLE,Int.reduceLT,IntKind.bits,h1,al,aW,aI,a9,di,akg,alh,ali]
 clear h1 al aW aI a9
 rintro s ⟨a4,h1,⟨al,aW⟩,aI,a9⟩
 refine bX (fun s=>(ka [.int .i64 K,.int .i64 Q]=true∧jg b xs e=true)∧s.af 7= .d (.bool true)∧s.af 1= .d (.int .u8 n)∧di 3 [.d (.int .i64 K),.d (.int .i64 Q)] s∧di 5 [.d (.bool b),.d (.ints .i64 xs),.d (.int .i64 e)] s) ?_ ?_
 ·generalize ka [.int .i64 K,.int .i64 Q]=t at*
  generalize jg b xs e=g at*
  cases t with
  |false=>simp (maxSteps:=2000000) only[↓ak,aj,↓reduceIte,reduceCtorEq,Nat.reduceEqDiff,Nat.reduceLeDiff,Nat.reduceSub,Nat.reduceAdd,Int.reduceToNat,Nat.reducePow,Int.reducePow,Int.reduceLE,Int.reduceLT,IntKind.bits,a4,h1,al,aW,aI,a9,di,KU,DH,rg,Bool.not_false]
  |true=>
   cases g with
   |false=>simp (maxSteps:=2000000) only[↓ak,aj,↓reduceIte,reduceCtorEq,Nat.reduceEqDiff,Nat.reduceLeDiff,Nat.reduceSub,Nat.reduceAdd,Int.reduceToNat,Nat.reducePow,Int.reducePow,Int.reduceLE,Int.reduceLT,IntKind.bits,a4,h1,al,aW,aI,a9,di,KU,DH,rg,VI,KV,KW,Bool.not_false,Bool.not_true]
   |true=>simp (maxSteps:=2000000) only[↓ak,aj,↓reduceIte,reduceCtorEq,Nat.reduceEqDiff,Nat.reduceLeDiff,Nat.reduceSub,Nat.reduceAdd,Int.reduceToNat,Nat.reducePow,Int.reducePow,Int.reduceLE,Int.reduceLT,IntKind.bits,a4,h1,al,aW,aI,a9,di,KU,DH,rg,VI,KV,KW,Bool.not_true]
 clear a4 h1 al aW aI a9 DH rg KV KW
 rintro s ⟨⟨ae,bb⟩,a4,h1,⟨al,aW⟩,aI,a9⟩
 obtain⟨q,rfl,aZ,bV,-⟩:=acu ae
 obtain⟨x,rfl,rfl,rfl,Zd⟩:=acd bb
 obtain⟨k,ad⟩:∃k:Nat,n % 70+1=(k:Int):=⟨(n % 70+1).toNat,by omega⟩
 have ma:uc.pre [.int .u8 n]:=⟨n,rfl,dj,hz⟩
 have oc:uc.res [.int .u8 n]= .int .i64 k:=by rw[←ad];rfl
 have ck:=ig K q
 have v7:a5 (an K q)≤14:=by have:=pM K (Q:=q) (by omega);omega
 refine bX (fun s=>s.af 8= .d (.int .i64 k)∧s.af 7= .d (.bool true)∧di 3 [.d (.int .i64 K),.d (.int .i64 q)] s∧di 5 [.d (.bool x.neg),.d (.ints .i64 (ai x.m)),.d (.int .i64 x.e)] s) ?_ ?_
 ·simp (maxSteps:=2000000) only[↓ak,aj,↓reduceIte,reduceCtorEq,Nat.reduceEqDiff,Nat.reduceLeDiff,Nat.reduceSub,Nat.reduceAdd,Int.reduceToNat,Nat.reducePow,Int.reducePow,Int.reduceLE,Int.reduceLT,IntKind.bits,a4,h1,al,aW,aI,a9,di,akh,ma,oc]
 clear a4 h1 al aW aI a9 ma oc
 rintro s ⟨bz,a4,⟨al,aW⟩,aI,a9⟩
 have wd:cv x:=win.up Zd (by omega) (by omega)
 have bB:jx.pre [.agg [.int .i64 K,.int .i64 q],.int .i64 k]:=⟨K,q,k,rfl,by omega,v7,by omega⟩
 have cu:qp.pre [.agg [.int .i64 K,.int .i64 q],.int .i64 k]:=⟨K,q,k,rfl,by omega,bV,v7,by omega⟩
 have eU:m4.pre [.agg [.int .i64 K,.int .i64 q],.int .i64 k]:=⟨K,q,k,rfl,by omega,v7,by omega⟩
 have wx:qq.pre [.agg [.int .i64 K,.int .i64 q],.int .i64 k]:=⟨K,q,k,rfl,by omega,bV,v7,by omega⟩
 obtain⟨y,hy⟩:∃y,y=fC false (an K q) k:=⟨_,rfl⟩
 obtain⟨z,bg⟩:∃z,z=fC true (an K q) k:=⟨_,rfl⟩
 have d1:jx.res [.agg [.int .i64 K,.int .i64 q],.int .i64 k]=aQ y:=by simp only[jx,Int.toNat_natCast,hy]
 have d2:qp.res [.agg [.int .i64 K,.int .i64 q],.int .i64 k]=aQ y:=by simp only[qp,Int.toNat_natCast,hy]
 have d3:m4.res [.agg [.int .i64 K,.int .i64 q],.int .i64 k]=aQ z:=by simp only[m4,Int.toNat_natCast,bg]
 have d4:qq.res [.agg [.int .i64 K,.int .i64 q],.int .i64 k]=aQ z:=by simp only[qq,Int.toNat_natCast,bg]
 have Ze:hk y:=hy▸ff (OS ck v7 (by omega)) (by omega) (by omega)
 have Zf:hk z:=bg▸ff (OS ck v7 (by omega)) (by omega) (by omega)
 have sn:∀y:bD,hk y→lX.pre [aQ y,aQ y]∧lX.res [aQ y,aQ y]= .bool true:=fun y hy=>⟨⟨y,y,rfl,hy,hy⟩,by simp[lX]⟩
 obtain⟨ea,t1⟩:=sn y Ze
 obtain⟨ft,t2⟩:=sn z Zf
 have f1:iQ.pre [aR x,.int .i64 k]:=⟨x,k,rfl,wd,by omega,by omega⟩
 have f2:jV.pre [aR x,.int .i64 k]:=⟨x,k,rfl,wd,by omega,by omega⟩
 obtain⟨u,hu⟩:∃u,u=fN x k:=⟨_,rfl⟩
 have cW:iQ.res [aR x,.int .i64 k]=aR u:=by simp only[iQ,aR,a7,b0,hu]
 have dy:jV.res [aR x,.int .i64 k]=aR u:=by simp only[jV,aR,a7,b0,hu]
 have m9:cv u:=hu▸win.up (sA Zd (n:=k) (by omega) (by omega) (by omega)) (by omega) (by omega)
 have fY:hN.pre [aR u,aR u]:=⟨u,u,rfl,m9,m9⟩
 have t3:hN.res [aR u,aR u]= .bool true:=by simp[hN]
 clear hy bg hu sn Ze Zf m9
 unfold aQ a7 at d1 d2 d3 d4 ea t1 ft t2
 unfold aR a7 at f1 f2 cW dy fY t3
 rw[AZ,Ay,Ek (by rfl)]
 refine uM 11 (fun s=>s.af 33= .d (.bool true)∧s.af 8= .d (.int .i64 k)∧di 3 [.d (.int .i64 K),.d (.int .i64 q)] s∧di 5 [.d (.bool x.neg),.d (.ints .i64 (ai x.m)),.d (.int .i64 x.e)] s) ?_ ?_
 ·simp only[List.take_succ_cons,List.take_zero]
  simp (maxSteps:=2000000) only[↓ak,aj,↓reduceIte,reduceCtorEq,Nat.reduceEqDiff,Nat.reduceLeDiff,Nat.reduceSub,Nat.reduceAdd,Int.reduceToNat,Nat.reducePow,Int.reducePow,Int.reduceLE,Int.reduceLT,IntKind.bits,bz,a4,al,aW,aI,a9,di,zd,bB,d1,aki,cu,d2,uf,ea,t1]
  first|done|((repeat' apply And.intro)<;>first|assumption|with_reducible rfl|omega|(simp only[aG];omega)|exact⟨_,rfl⟩|exact⟨_,_,_,rfl⟩|exact⟨_,_,_,_,_,_,rfl⟩)
 clear bz a4 al aW aI a9
 rintro s ⟨b5,bz,⟨al,aW⟩,aI,a9⟩
 simp only[List.drop_succ_cons,List.drop_zero]
 refine uM 9 (fun s=>s.af 42= .d (.bool true)∧s.af 8= .d (.int .i64 k)∧di 5 [.d (.bool x.neg),.d (.ints .i64 (ai x.m)),.d (.int .i64 x.e)] s) ?_ ?_
 ·simp only[List.take_succ_cons,List.take_zero]
  simp (maxSteps:=2000000) only[↓ak,aj,↓reduceIte,reduceCtorEq,Nat.reduceEqDiff,Nat.reduceLeDiff,Nat.reduceSub,Nat.reduceAdd,Int.reduceToNat,Nat.reducePow,Int.reducePow,Int.reduceLE,Int.reduceLT,IntKind.bits,b5,bz,al,aW,aI,a9,di,KS,eU,d3,akj,wx,d4,uf,ft,t2]
  first|done|((repeat' apply And.intro)<;>first|assumption|with_reducible rfl|omega|(simp only[aG];omega)|exact⟨_,rfl⟩|exact⟨_,_,_,rfl⟩|exact⟨_,_,_,_,_,_,rfl⟩)
 clear bz al aW aI a9 b5
 rintro s ⟨b5,bz,aI,a9⟩
 simp only[List.drop_succ_cons,List.drop_zero]
 simp (maxSteps:=2000000) only[↓ak,aj,↓reduceIte,reduceCtorEq,Nat.reduceEqDiff,Nat.reduceLeDiff,Nat.reduceSub,Nat.reduceAdd,Int.reduceToNat,Nat.reducePow,Int.reducePow,Int.reduceLE,Int.reduceLT,IntKind.bits,b5,bz,aI,a9,y5,f1,cW,Dd,f2,dy,vX,fY,t3]
 first|done|((repeat' apply And.intro)<;>first|assumption|with_reducible rfl|omega|(simp only[aG];omega)|exact⟨_,rfl⟩|exact⟨_,_,_,rfl⟩|exact⟨_,_,_,_,_,_,rfl⟩)
end RV.Dr
