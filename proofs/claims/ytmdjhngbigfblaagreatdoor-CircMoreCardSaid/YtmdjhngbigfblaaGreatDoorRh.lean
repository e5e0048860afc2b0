/- Lemmas for a claim: an abstract machine for the translated code, proved sound, and contracts of functions. By an AI agent. -/
import Derived.Test.YtmdjhngbigfblaaGreatDoorRg
import Derived.Test.YtmdjhngbigfblaaGreatDoorRb
import Derived.Test.YtmdjhngbigfblaaGreatDoorRf
set_option linter.all false
namespace RV.Dr
open Go RV
set_option linter.unusedSimpArgs false
set_option linter.unusedVariables false
set_option maxRecDepth 100000
set_option maxHeartbeats 4000000
def ym:bC where
 pre:=fun ds=>∃(x:bP) (y:a6),ds=[aA x,aI y]∧hj x∧bO y
 res:=fun ds=>match ds with
  |[p,q]=> .bool (zq (fe p) (eA q))
  |_=> .nilp
theorem apE (Γ:Env) (jJ:Γ.has 47 ef) (ds:List D) (h:ym.pre ds):bT Γ M7 M8 ds fun d=>d=ym.res ds:=by
 obtain⟨x,y,rfl,⟨eu,e5⟩,hy⟩:=h
 by_cases c:ej x.lo y≤0
 ·have ar:zq x y=decide (ej y x.hi≤0):=by unfold zq r7;rw[decide_eq_true c,Bool.true_and]
  simp (maxSteps:=2000000) only[↓al,ak,↓reduceIte,reduceCtorEq,Nat.reduceEqDiff,Nat.reduceLeDiff,Nat.reduceSub,Nat.reduceAdd,Int.reduceToNat,Nat.reducePow,Int.reducePow,Int.reduceLE,Int.reduceLT,IntKind.bits,M7,M8,ym,aA,dq,jJ,ef,cd,aI,c,ar]
  exact⟨⟨x.lo,y,rfl,eu,hy⟩,⟨y,x.hi,rfl,hy,e5⟩⟩
 ·have ar:zq x y=false:=by unfold zq r7;rw[decide_eq_false c,Bool.false_and]
  simp (maxSteps:=2000000) only[↓al,ak,↓reduceIte,reduceCtorEq,Nat.reduceEqDiff,Nat.reduceLeDiff,Nat.reduceSub,Nat.reduceAdd,Int.reduceToNat,Nat.reducePow,Int.reducePow,Int.reduceLE,Int.reduceLT,IntKind.bits,M7,M8,ym,aA,dq,jJ,ef,cd,aI,c,ar]
  exact⟨x.lo,y,rfl,eu,hy⟩
def uv:bC where
 pre:=fun ds=>∃x y:bP,ds=[aA x,aA y]∧hj x∧hj y
 res:=fun ds=>match ds with
  |[p,q]=> .bool (r7 (fe p) (fe q))
  |_=> .nilp
theorem apF (Γ:Env) (jJ:Γ.has 47 ef) (ds:List D) (h:uv.pre ds):bT Γ M9 Na ds fun d=>d=uv.res ds:=by
 obtain⟨x,y,rfl,⟨eu,e5⟩,⟨g0,kN⟩⟩:=h
 by_cases c:ej y.lo x.lo≤0
 ·have ar:r7 x y=decide (ej x.hi y.hi≤0):=by unfold r7;rw[decide_eq_true c,Bool.true_and]
  simp (maxSteps:=2000000) only[↓al,ak,↓reduceIte,reduceCtorEq,Nat.reduceEqDiff,Nat.reduceLeDiff,Nat.reduceSub,Nat.reduceAdd,Int.reduceToNat,Nat.reducePow,Int.reducePow,Int.reduceLE,Int.reduceLT,IntKind.bits,M9,Na,uv,aA,dq,jJ,ef,cd,aI,c,ar]
  exact⟨⟨y.lo,x.lo,rfl,g0,eu⟩,⟨x.hi,y.hi,rfl,e5,kN⟩⟩
 ·have ar:r7 x y=false:=by unfold r7;rw[decide_eq_false c,Bool.false_and]
  simp (maxSteps:=2000000) only[↓al,ak,↓reduceIte,reduceCtorEq,Nat.reduceEqDiff,Nat.reduceLeDiff,Nat.reduceSub,Nat.reduceAdd,Int.reduceToNat,Nat.reducePow,Int.reducePow,Int.reduceLE,Int.reduceLT,IntKind.bits,M9,Na,uv,aA,dq,jJ,ef,cd,aI,c,ar]
  exact⟨y.lo,x.lo,rfl,g0,eu⟩
def gC:bC where
 pre:=fun ds=>∃x:bP,ds=[aA x]
 res:=fun ds=>match ds with
  |[p]=>aA (dd (fe p))
  |_=> .nilp
theorem VI (Γ:Env) (Cf:Γ.has 48 gM) (ds:List D) (h:gC.pre ds):bT Γ TG TH ds fun d=>d=gC.res ds:=by
 obtain⟨x,rfl⟩:=h
 simp (maxSteps:=2000000) only[↓al,ak,↓reduceIte,reduceCtorEq,Nat.reduceEqDiff,Nat.reduceLeDiff,Nat.reduceSub,Nat.reduceAdd,Int.reduceToNat,Nat.reducePow,Int.reducePow,Int.reduceLE,Int.reduceLT,IntKind.bits,TG,TH,gC,aA,dq,dd,Cf,gM,cd,aI]
 exact⟨⟨x.hi,rfl⟩,⟨x.lo,rfl⟩⟩
def gO:bC where
 pre:=fun ds=>∃x y:bP,ds=[aA x,aA y]∧hj x∧hj y
 res:=fun ds=>match ds with
  |[p,q]=>aA (dJ (fe p) (fe q))
  |_=> .nilp
theorem VJ (Γ:Env) (Cg:Γ.has 50 g1) (ds:List D) (h:gO.pre ds):bT Γ TO TP ds fun d=>d=gO.res ds:=by
 obtain⟨x,y,rfl,⟨eu,e5⟩,⟨g0,kN⟩⟩:=h
 simp (maxSteps:=2000000) only[↓al,ak,↓reduceIte,reduceCtorEq,Nat.reduceEqDiff,Nat.reduceLeDiff,Nat.reduceSub,Nat.reduceAdd,Int.reduceToNat,Nat.reducePow,Int.reducePow,Int.reduceLE,Int.reduceLT,IntKind.bits,TO,TP,gO,aA,dq,dJ,Cg,g1,cd,aI]
 exact⟨⟨x.lo,y.lo,rfl,eu,g0⟩,⟨x.hi,y.hi,rfl,e5,kN⟩⟩
def Aa:bC where
 pre:=fun ds=>∃(x:bP) (k:Int),ds=[aA x,.int .i64 k]∧hj x∧-100000≤k∧k≤100000
 res:=fun ds=>match ds with
  |[p,.int _ k]=>aA (gV (fe p) k)
  |_=> .nilp
theorem apG (Γ:Env) (apH:Γ.has 69 E6) (ds:List D) (h:Aa.pre ds):bT Γ TK TL ds fun d=>d=Aa.res ds:=by
 obtain⟨x,k,rfl,⟨eu,e5⟩,h1,h2⟩:=h
 simp (maxSteps:=2000000) only[↓al,ak,↓reduceIte,reduceCtorEq,Nat.reduceEqDiff,Nat.reduceLeDiff,Nat.reduceSub,Nat.reduceAdd,Int.reduceToNat,Nat.reducePow,Int.reducePow,Int.reduceLE,Int.reduceLT,IntKind.bits,TK,TL,Aa,aA,dq,gV,apH,E6,cd,aI]
 exact⟨⟨x.lo,k,rfl,eu,h1,h2⟩,⟨x.hi,k,rfl,e5,h1,h2⟩⟩
def vR:bC where
 pre:=fun ds=>∃(x:bP) (k:Int),ds=[aA x,.int .i64 k]∧hj x∧0≤k∧k≤100000
 res:=fun ds=>match ds with
  |[p,.int _ k]=>aA (qh (fe p) k)
  |_=> .nilp
theorem apI (Γ:Env) (NJ:Γ.has 75 uu) (ds:List D) (h:vR.pre ds):bT Γ TW TX ds fun d=>d=vR.res ds:=by
 obtain⟨x,k,rfl,⟨eu,e5⟩,h1,h2⟩:=h
 simp (maxSteps:=2000000) only[↓al,ak,↓reduceIte,reduceCtorEq,Nat.reduceEqDiff,Nat.reduceLeDiff,Nat.reduceSub,Nat.reduceAdd,Int.reduceToNat,Nat.reducePow,Int.reducePow,Int.reduceLE,Int.reduceLT,IntKind.bits,TW,TX,vR,aA,dq,qh,NJ,uu,cd,aI]
 exact⟨⟨x.lo,k,false,rfl,eu,h1,h2⟩,⟨x.hi,k,true,rfl,e5,h1,h2⟩⟩
def qx (rows:List (List D)) (i:Nat) (m M:a6) (s:St):Prop:=s.ag 5= .d (.recs 3 rows)∧s.ag 4= .box 4 0∧(∃bN bs bq fm e2 e3,s.az 4=some ⟨false,false,.cells [bN,bs,bq,fm,e2,e3]⟩)∧s.ag 6= .box 6 0∧s.az 6=some ⟨false,false,.cells [.d (.bool m.neg),.d (.ints .i64 (ao m.m)),.d (.int .i64 m.e),.d (.bool M.neg),.d (.ints .i64 (ao M.m)),.d (.int .i64 M.e)]⟩∧s.ag 7= .d (.int .i64 ((i+1:Nat):Int))
def gP:bC where
 pre:=fun ds=>∃x y:bP,ds=[aA x,aA y]∧F8 x∧F8 y
 res:=fun ds=>match ds with
  |[p,q]=>aA (cP (fe p) (fe q))
  |_=> .nilp
theorem VK (Γ:Env) (NK:Γ.has 51 kL) (jJ:Γ.has 47 ef) (yn:Γ.has 19 gN) (ds:List D) (h:gP.pre ds):bT Γ TS TT ds fun d=>d=gP.res ds:=by
 obtain⟨x,y,rfl,⟨eu,e5⟩,⟨g0,kN⟩⟩:=h
 have cu:gP.res [aA x,aA y]=aA (cP x y):=by simp only[gP,aA,aZ,dq]
 rw[cu]
 obtain⟨l,aJ⟩:∃l,l=[cD x.lo y.hi,cD x.hi y.lo,cD x.hi y.hi]:=⟨_,rfl⟩
 obtain⟨a,a9⟩:∃a,a=cD x.lo y.lo:=⟨_,rfl⟩
 have hJ:cP x y=⟨er gA a l,er gB a l⟩:=by rw[aJ,a9];rfl
 have hW:∀z∈a::l,bO z:=by
  intro z br
  rw[a9,aJ]at br
  simp only[List.mem_cons,List.not_mem_nil,or_false]at br
  rcases br with rfl|rfl|rfl|rfl<;>exact Hj ‹_› ‹_›
 have yI:∀u v:a6,cO u→cO v→kL.pre [.agg [.bool u.neg,.ints .i64 (ao u.m),.int .i64 u.e],.agg [.bool v.neg,.ints .i64 (ao v.m),.int .i64 v.e]]:=fun u v h1 h2=>⟨u,v,rfl,Di h1,Di h2⟩
 have F9:∀u v:a6,kL.res [.agg [.bool u.neg,.ints .i64 (ao u.m),.int .i64 u.e],.agg [.bool v.neg,.ints .i64 (ao v.m),.int .i64 v.e]]= .agg [.bool (cD u v).neg,.ints .i64 (ao (cD u v).m),.int .i64 (cD u v).e]:=fun u v=>by simp only[kL,cd,aI,aZ]
 have qI:∀y m:a6,bO y→bO m→ef.pre [.agg [.bool y.neg,.ints .i64 (ao y.m),.int .i64 y.e],.agg [.bool m.neg,.ints .i64 (ao m.m),.int .i64 m.e]]:=fun y m h1 h2=>⟨y,m,rfl,h1,h2⟩
 have k0:∀y m:a6,ef.res [.agg [.bool y.neg,.ints .i64 (ao y.m),.int .i64 y.e],.agg [.bool m.neg,.ints .i64 (ao m.m),.int .i64 m.e]]= .int .i64 (ej y m):=fun y m=>by simp only[ef,cd]
 have ary:gN.pre [.agg [.bool a.neg,.ints .i64 (ao a.m),.int .i64 a.e]]:=⟨a,rfl⟩
 have arz:gN.res [.agg [.bool a.neg,.ints .i64 (ao a.m),.int .i64 a.e]]= .agg [.bool a.neg,.ints .i64 (ao a.m),.int .i64 a.e,.bool a.neg,.ints .i64 (ao a.m),.int .i64 a.e]:=by simp only[gN,cd,aA,xT,aZ]
 obtain⟨rows,jE⟩:∃rows,rows=(a::l).map jY:=⟨_,rfl⟩
 have hlen:rows.length=l.length+1:=by rw[jE,List.length_map,List.length_cons]
 have afR:l.length=3:=by rw[aJ];rfl
 have z9:∀(i:Nat) (hi:i<l.length+1),rows.getD i []=[.bool ((a::l)[i]'(by simpa using hi)).neg,.ints .i64 (ao ((a::l)[i]'(by simpa using hi)).m),.int .i64 ((a::l)[i]'(by simpa using hi)).e]:=fun i hi=>by
  rw[List.getD_eq_getElem?_getD,List.getElem?_eq_getElem (by omega),Option.getD_some]
  simp only[jE,List.getElem_map,jY]
 rw[hJ]
 rw[fU]
 unfold TS TT
 have FG:=hW a (by simp)
 have h0:=z9 0 (by omega)
 simp only[List.getElem_cons_zero]at h0
 refine bZ (fun s=>s.ag 4= .box 4 0∧(∃bN bs bq fm e2 e3,s.az 4=some ⟨false,false,.cells [bN,bs,bq,fm,e2,e3]⟩)∧s.ag 2= .box 2 0∧s.az 2=some ⟨false,false,.cells [.d (.bool x.lo.neg),.d (.ints .i64 (ao x.lo.m)),.d (.int .i64 x.lo.e),.d (.bool x.hi.neg),.d (.ints .i64 (ao x.hi.m)),.d (.int .i64 x.hi.e)]⟩∧s.ag 3= .box 3 0∧s.az 3=some ⟨false,false,.cells [.d (.bool y.lo.neg),.d (.ints .i64 (ao y.lo.m)),.d (.int .i64 y.lo.e),.d (.bool y.hi.neg),.d (.ints .i64 (ao y.hi.m)),.d (.int .i64 y.hi.e)]⟩) ?_ ?_
 ·simp (maxSteps:=2000000) only[↓al,ak,↓reduceIte,reduceCtorEq,Nat.reduceEqDiff,Nat.reduceLeDiff,Nat.reduceSub,Nat.reduceAdd,Int.reduceToNat,Nat.reducePow,Int.reducePow,Int.reduceLE,Int.reduceLT,IntKind.bits,aA]
  exact⟨_,_,_,_,_,_,rfl⟩
 rintro s ⟨aE,⟨bN,bs,bq,fm,e2,e3,aS⟩,h2,aR,aq,aW⟩
 refine bZ (fun s=>s.ag 4= .box 4 0∧(∃bN bs bq fm e2 e3,s.az 4=some ⟨false,false,.cells [bN,bs,bq,fm,e2,e3]⟩)∧s.ag 5= .d (.recs 3 rows)) ?_ ?_
 ·have p1:=yI _ _ eu g0
  have cU:=yI _ _ eu kN
  have gT:=yI _ _ e5 g0
  have Aq:=yI _ _ e5 kN
  simp (maxSteps:=2000000) only[↓al,ak,↓reduceIte,reduceCtorEq,Nat.reduceEqDiff,Nat.reduceLeDiff,Nat.reduceSub,Nat.reduceAdd,Int.reduceToNat,Nat.reducePow,Int.reducePow,Int.reduceLE,Int.reduceLT,IntKind.bits,aE,aS,h2,aR,aq,aW,NK,p1,cU,gT,Aq,F9]
  refine⟨⟨_,_,_,_,_,_,rfl⟩,?_⟩
  rw[jE,a9,aJ]
  rfl
 clear aE aS h2 aR aq aW
 rintro s ⟨aE,⟨bN,bs,bq,fm,e2,e3,aS⟩,aF⟩
 have hO:(0:Int)<rows.length:=by omega
 have apJ:0<rows.length:=by omega
 have F2:∀{m M:a6} {i:Nat} {s:St},qx rows i m M s↔qx rows i m M s:=Iff.rfl
 have bR:((1:Int)<rows.length)=True:=by simp only[eq_iff_iff,iff_true];omega
 refine bZ (fun s=>s.ag 5= .d (.recs 3 rows)∧s.ag 4= .box 4 0∧(∃bN bs bq fm e2 e3,s.az 4=some ⟨false,false,.cells [bN,bs,bq,fm,e2,e3]⟩)∧s.ag 6= .box 6 0∧s.az 6=some ⟨false,false,.cells [.d (.bool a.neg),.d (.ints .i64 (ao a.m)),.d (.int .i64 a.e),.d (.bool a.neg),.d (.ints .i64 (ao a.m)),.d (.int .i64 a.e)]⟩) ?_ ?_
 ·simp (maxSteps:=2000000) only[↓al,ak,↓reduceIte,reduceCtorEq,Nat.reduceEqDiff,Nat.reduceLeDiff,Nat.reduceSub,Nat.reduceAdd,Int.reduceToNat,Nat.reducePow,Int.reducePow,Int.reduceLE,Int.reduceLT,IntKind.bits,aE,aS,aF,h0,hO,apJ,yn,ary,arz]
  exact⟨_,_,_,_,_,_,rfl⟩
 clear aE aS aF
 rintro s ⟨aF,aE,⟨bN,bs,bq,fm,e2,e3,aS⟩,aN,a8⟩
 refine bZ (fun s=>s.ag 4= .box 4 0∧(∃bN bs bq fm e2 e3,s.az 4=some ⟨false,false,.cells [bN,bs,bq,fm,e2,e3]⟩)∧s.ag 6= .box 6 0∧s.az 6=some ⟨false,false,.cells [.d (.bool (er gA a l).neg),.d (.ints .i64 (ao (er gA a l).m)),.d (.int .i64 (er gA a l).e),.d (.bool (er gB a l).neg),.d (.ints .i64 (ao (er gB a l).m)),.d (.int .i64 (er gB a l).e)]⟩) ?_ ?_
 ·simp (maxSteps:=2000000) only[↓al,ak,↓reduceIte,reduceCtorEq,Nat.reduceEqDiff,Nat.reduceLeDiff,Nat.reduceSub,Nat.reduceAdd,Int.reduceToNat,Nat.reducePow,Int.reducePow,Int.reduceLE,Int.reduceLT,IntKind.bits,aE,aS,aF,aN,a8]
  refine fp (fun s=>∃(i:Nat) (m M:a6),qx rows i m M s∧i≤l.length∧bO m∧bO M∧er gA m (l.drop i)=er gA a l∧er gB M (l.drop i)=er gB a l)
   (fun s=>match s.ag 7 with| .d (.int _ n)=>rows.length - n.toNat|_=>0) ?_ ?_
  ·refine⟨0,a,a,?_,Nat.zero_le _,FG,FG,rfl,rfl⟩
   unfold qx
   simp (maxSteps:=2000000) only[↓al,ak,↓reduceIte,reduceCtorEq,Nat.reduceEqDiff,Nat.reduceLeDiff,Nat.reduceSub,Nat.reduceAdd,Int.reduceToNat,Nat.reducePow,Int.reducePow,Int.reduceLE,Int.reduceLT,IntKind.bits,aE,aS,aF,aN,a8,Nat.zero_add]
   ((repeat' apply And.intro)<;>first|assumption|with_reducible rfl|omega|(simp only[aO];omega)|exact⟨_,rfl⟩|exact⟨_,_,_,rfl⟩|exact⟨_,_,_,_,_,_,rfl⟩)
  ·clear aE aS aF aN a8
   rintro s ⟨i,m,M,⟨aF,aE,⟨bN,bs,bq,fm,e2,e3,aS⟩,aN,a8,aM⟩,hi,hm,cJ,hf,bh⟩
   have ks:=aM
   by_cases ci:((i+1:Nat):Int)<rows.length
   ·have uo:i<l.length:=by omega
    have gD:i+1<rows.length:=by omega
    have sZ:=z9 (i+1) (by omega)
    obtain⟨z,br⟩:∃z,z=l[i]:=⟨_,rfl⟩
    have apK:(a::l)[i+1]'(by simpa using uo)=z:=by rw[br];rfl
    rw[apK]at sZ
    have agm:bO z:=hW z (by rw[br];exact List.mem_cons_of_mem _ (List.getElem_mem uo))
    rw[Pg uo,←br]at hf bh
    have p1:=qI z m agm hm
    have cU:=qI z M agm cJ
    have a4:((i+1:Nat):Int).toNat=i+1:=Int.toNat_natCast _
    obtain⟨ft,vE⟩:∃ft,ft=(if gA z m=true then z else m):=⟨_,rfl⟩
    obtain⟨kZ,sX⟩:∃kZ,kZ=(if gB z M=true then z else M):=⟨_,rfl⟩
    have b8:bO ft:=by rw[vE];split<;>assumption
    have cL:bO kZ:=by rw[sX];split<;>assumption
    rw[←vE]at hf
    rw[←sX]at bh
    refine bZ (qx rows i m M) ?_ ?_
    ·unfold qx
     simp (maxSteps:=60000) only[↓al,ak,↓reduceIte,reduceCtorEq,Nat.reduceEqDiff,Nat.reduceLeDiff,Nat.reduceSub,Nat.reduceAdd,Int.reduceToNat,Nat.reducePow,Int.reducePow,Int.reduceLE,Int.reduceLT,IntKind.bits,aE,aS,aF,aN,a8,aM,ci,gD]
     ((repeat' apply And.intro)<;>first|assumption|with_reducible rfl|omega|(simp only[aO];omega)|exact⟨_,rfl⟩|exact⟨_,_,_,rfl⟩|exact⟨_,_,_,_,_,_,rfl⟩)
    clear aE aS aF aN a8 aM
    rintro s ⟨aF,aE,⟨bN,bs,bq,fm,e2,e3,aS⟩,aN,a8,aM⟩
    refine bZ (qx rows i ft kZ) ?_ ?_
    ·rw[k3]
     refine bZ (qx rows i ft M) ?_ ?_
     ·refine bZ (fun s=>s.ag 46= .d (.bool (gA z m))∧qx rows i m M s) ?_ ?_
      ·unfold qx
       simp (maxSteps:=60000) only[↓al,ak,↓reduceIte,reduceCtorEq,Nat.reduceEqDiff,Nat.reduceLeDiff,Nat.reduceSub,Nat.reduceAdd,Int.reduceToNat,Nat.reducePow,Int.reducePow,Int.reduceLE,Int.reduceLT,IntKind.bits,aE,aS,aF,aN,a8,aM,gD,sZ,Int.toNat_natCast,jJ,p1,k0,gA]
       ((repeat' apply And.intro)<;>first|assumption|with_reducible rfl|omega|(simp only[aO];omega)|exact⟨_,rfl⟩|exact⟨_,_,_,rfl⟩|exact⟨_,_,_,_,_,_,rfl⟩)
      clear aE aS aF aN a8 aM
      rintro s ⟨Ch,aF,aE,⟨bN,bs,bq,fm,e2,e3,aS⟩,aN,a8,aM⟩
      unfold qx
      cases aw:gA z m with
      |true=>
       rw[aw,if_pos rfl]at vE
       rw[aw]at Ch
       subst vE
       simp (maxSteps:=60000) only[↓al,ak,↓reduceIte,reduceCtorEq,Nat.reduceEqDiff,Nat.reduceLeDiff,Nat.reduceSub,Nat.reduceAdd,Int.reduceToNat,Nat.reducePow,Int.reducePow,Int.reduceLE,Int.reduceLT,IntKind.bits,Ch,aE,aS,aF,aN,a8,aM,gD,sZ,Int.toNat_natCast]
       ((repeat' apply And.intro)<;>first|assumption|with_reducible rfl|omega|(simp only[aO];omega)|exact⟨_,rfl⟩|exact⟨_,_,_,rfl⟩|exact⟨_,_,_,_,_,_,rfl⟩)
      |false=>
       rw[aw,if_neg (by decide)]at vE
       rw[aw]at Ch
       subst vE
       simp (maxSteps:=60000) only[↓al,ak,↓reduceIte,reduceCtorEq,Nat.reduceEqDiff,Nat.reduceLeDiff,Nat.reduceSub,Nat.reduceAdd,Int.reduceToNat,Nat.reducePow,Int.reducePow,Int.reduceLE,Int.reduceLT,IntKind.bits,Ch,aE,aS,aF,aN,a8,aM]
       ((repeat' apply And.intro)<;>first|assumption|with_reducible rfl|omega|(simp only[aO];omega)|exact⟨_,rfl⟩|exact⟨_,_,_,rfl⟩|exact⟨_,_,_,_,_,_,rfl⟩)
     clear aE aS aF aN a8 aM
     rintro s ⟨aF,aE,⟨bN,bs,bq,fm,e2,e3,aS⟩,aN,a8,aM⟩
     refine bZ (fun s=>s.ag 59= .d (.bool (gB z M))∧qx rows i ft M s) ?_ ?_
     ·unfold qx
      simp (maxSteps:=60000) only[↓al,ak,↓reduceIte,reduceCtorEq,Nat.reduceEqDiff,Nat.reduceLeDiff,Nat.reduceSub,Nat.reduceAdd,Int.reduceToNat,Nat.reducePow,Int.reducePow,Int.reduceLE,Int.reduceLT,IntKind.bits,aE,aS,aF,aN,a8,aM,gD,sZ,Int.toNat_natCast,jJ,cU,k0,gB]
      ((repeat' apply And.intro)<;>first|assumption|with_reducible rfl|omega|(simp only[aO];omega)|exact⟨_,rfl⟩|exact⟨_,_,_,rfl⟩|exact⟨_,_,_,_,_,_,rfl⟩)
     clear aE aS aF aN a8 aM
     rintro s ⟨Ci,aF,aE,⟨bN,bs,bq,fm,e2,e3,aS⟩,aN,a8,aM⟩
     unfold qx
     cases aw:gB z M with
     |true=>
      rw[aw,if_pos rfl]at sX
      rw[aw]at Ci
      subst sX
      simp (maxSteps:=60000) only[↓al,ak,↓reduceIte,reduceCtorEq,Nat.reduceEqDiff,Nat.reduceLeDiff,Nat.reduceSub,Nat.reduceAdd,Int.reduceToNat,Nat.reducePow,Int.reducePow,Int.reduceLE,Int.reduceLT,IntKind.bits,Ci,aE,aS,aF,aN,a8,aM,gD,sZ,Int.toNat_natCast]
      ((repeat' apply And.intro)<;>first|assumption|with_reducible rfl|omega|(simp only[aO];omega)|exact⟨_,rfl⟩|exact⟨_,_,_,rfl⟩|exact⟨_,_,_,_,_,_,rfl⟩)
     |false=>
      rw[aw,if_neg (by decide)]at sX
      rw[aw]at Ci
      subst sX
      simp (maxSteps:=60000) only[↓al,ak,↓reduceIte,reduceCtorEq,Nat.reduceEqDiff,Nat.reduceLeDiff,Nat.reduceSub,Nat.reduceAdd,Int.reduceToNat,Nat.reducePow,Int.reducePow,Int.reduceLE,Int.reduceLT,IntKind.bits,Ci,aE,aS,aF,aN,a8,aM]
      ((repeat' apply And.intro)<;>first|assumption|with_reducible rfl|omega|(simp only[aO];omega)|exact⟨_,rfl⟩|exact⟨_,_,_,rfl⟩|exact⟨_,_,_,_,_,_,rfl⟩)
    clear aE aS aF aN a8 aM
    rintro s ⟨aF,aE,⟨bN,bs,bq,fm,e2,e3,aS⟩,aN,a8,aM⟩
    unfold qx
    simp (maxSteps:=60000) only[↓al,ak,↓reduceIte,reduceCtorEq,Nat.reduceEqDiff,Nat.reduceLeDiff,Nat.reduceSub,Nat.reduceAdd,Int.reduceToNat,Nat.reducePow,Int.reducePow,Int.reduceLE,Int.reduceLT,IntKind.bits,aE,aS,aF,aN,a8,aM]
    refine⟨by simp only[aO];omega,⟨i+1,ft,kZ,⟨⟨_,_,_,_,_,_,rfl⟩,rfl,by omega⟩,by omega,b8,cL,hf,bh⟩,?_⟩
    rw[ks]
    show rows.length - _<rows.length - _
    omega
   ·simp (maxSteps:=2000000) only[↓al,ak,↓reduceIte,reduceCtorEq,Nat.reduceEqDiff,Nat.reduceLeDiff,Nat.reduceSub,Nat.reduceAdd,Int.reduceToNat,Nat.reducePow,Int.reducePow,Int.reduceLE,Int.reduceLT,IntKind.bits,aE,aS,aF,aN,a8,aM,ci]
    have hi':l.drop i=[]:=List.drop_of_length_le (by omega)
    rw[hi']at hf bh
    rw[←hf,←bh]
    exact⟨⟨_,_,_,_,_,_,rfl⟩,rfl⟩
 clear aE aS aF aN a8
 rintro s ⟨aE,⟨bN,bs,bq,fm,e2,e3,aS⟩,aN,a8⟩
 simp (maxSteps:=2000000) only[↓al,ak,↓reduceIte,reduceCtorEq,Nat.reduceEqDiff,Nat.reduceLeDiff,Nat.reduceSub,Nat.reduceAdd,Int.reduceToNat,Nat.reducePow,Int.reducePow,Int.reduceLE,Int.reduceLT,IntKind.bits,aE,aS,aN,a8,aA,aZ]
theorem alD (neg:Bool) (m:Nat) (e:Int):mk neg (2*m) (e - 1)=mk neg m e:=by
 unfold mk
 by_cases h:m=0
 ·rw[if_pos h,if_pos (by omega)]
 ·have:=OX h 1
  rw[if_neg h,if_neg (by omega),show (2:Nat)*m=2^1*m by omega,this,Nat.pow_add,Nat.mul_div_mul_left _ _ (by decide:0<2^1)]
  congr 1
  omega
def Ab:bC where
 pre:=fun ds=>∃(x:a6) (n:Int) (up:Bool),ds=[aI x,.int .i64 n,.bool up]∧bO x∧0≤n∧n≤1000
 res:=fun ds=>match ds with
  |[p,.int _ n,.bool up]=>aI (eo (eA p) n up)
  |_=> .nilp
theorem apL (Γ:Env) (BB:Γ.has 104 lg) (Cc:Γ.has 91 iB) (aek:Γ.has 105 x2) (Cd:Γ.has 94 ly) (agn:Γ.has 65 j2) (xb:Γ.has 89 hY) (vQ:Γ.has 76 dT) (NJ:Γ.has 75 uu) (ds:List D) (h:Ab.pre ds):bT Γ Ng Nh ds fun d=>d=Ab.res ds:=by
 obtain⟨x,n,up,rfl,aj,dS,jm⟩:=h
 have ex:=kK aj
 have da:=hn aj
 have az:=jc aj
 have ta:ao 0=[]:=hk
 by_cases h0:x.m=0
 ·have ar:eo x n up=x:=by
   unfold eo
   rw[h0,Nat.zero_mul,AG]
   obtain⟨a4,bc⟩:=aj.1.1 h0
   have:mk false 0 ((x.e - gu x n) / 2 - 1)=x:=by
    unfold mk
    rw[if_pos rfl]
    cases x;simp_all
   rw[this]
   unfold gy
   rw[if_pos (by rw[h0,eE];omega)]
  simp (maxSteps:=2000000) only[↓al,ak,↓reduceIte,reduceCtorEq,Nat.reduceEqDiff,Nat.reduceLeDiff,Nat.reduceSub,Nat.reduceAdd,Int.reduceToNat,Nat.reducePow,Int.reducePow,Int.reduceLE,Int.reduceLT,IntKind.bits,Ng,Nh,Ab,aI,cd,ar,I5 h0]
 ·have hW:=ZP aj dS jm
  have ub:=Gv (x:=x) dS
  have B9:=GA x n
  obtain⟨jw,VA⟩:∃jw,jw=max (2*n+4 - (bp x.m:Int)) 0:=⟨_,rfl⟩
  have z3:(if (0:Int)>2*n+4 - bp x.m then 0 else 2*n+4 - (bp x.m:Int))=jw:=by split<;>omega
  have cj:gu x n=jw+(x.e - jw) % 2:=by unfold gu;rw[←VA]
  obtain⟨k,af⟩:∃k:Nat,gu x n=k:=⟨(gu x n).toNat,by omega⟩
  obtain⟨M,cJ⟩:∃M,M=x.m*2^k:=⟨_,rfl⟩
  obtain⟨q,a7⟩:∃q,q=(x.e - k) / 2:=⟨_,rfl⟩
  rw[af]at B9 ub hW
  rw[Int.toNat_natCast,←cJ]at hW
  rw[←a7]at B9 hW
  have Jj:(x.e - (k:Int)).tdiv 2=q:=by rw[B9];exact Int.mul_tdiv_cancel_left _ (by decide)
  have ar:eo x n up=gy (mk false (cQ M) (q - 1)) n up:=by unfold eo;rw[af,Int.toNat_natCast,←cJ,←a7]
  have art:bp M≤bp x.m+k:=by rw[cJ,p2 h0];omega
  have JK:=fo M
  have ahw:=PC M
  have ahx:=fo (a5 M)
  have JL:=Kt M
  have WI:=fo (cQ M)
  have aph:=CH (a5 M) (a5 M)
  have api:=fo (a5 M*a5 M)
  have c7:ao 1=[1]:=by decide+kernel
  have yG:lg.pre [.ints .i64 (ao x.m)]:=⟨x.m,rfl,by omega⟩
  have yH:lg.res [.ints .i64 (ao x.m)]= .int .i64 (bp x.m):=by simp only[lg,b5]
  have Jk:iB.pre [.ints .i64 (ao x.m),.int .i64 k]:=⟨_,_,rfl,c5 _,by omega,by omega⟩
  have Jl:iB.res [.ints .i64 (ao x.m),.int .i64 k]= .ints .i64 (ao M):=by simp only[iB,b5,Int.toNat_natCast,←cJ,aZ]
  have Ml:iB.pre [.ints .i64 (ao (a5 M)),.int .i64 1]:=⟨_,_,rfl,c5 _,by omega,by omega⟩
  have Mm:iB.res [.ints .i64 (ao (a5 M)),.int .i64 1]= .ints .i64 (ao (2*a5 M)):=by
   simp only[iB,b5,aZ]
   rw[show a5 M*2^(1:Int).toNat=2*a5 M by rw[show (1:Int).toNat=1 from rfl];omega]
  have Jm:x2.pre [.ints .i64 (ao M)]:=⟨M,rfl,by omega⟩
  have Jn:x2.res [.ints .i64 (ao M)]= .ints .i64 (ao (a5 M)):=by simp only[x2,b5,aZ]
  have Jo:ly.pre [.ints .i64 (ao (a5 M)),.ints .i64 (ao (a5 M))]:=⟨_,_,rfl,c5 _,c5 _,by omega,by omega⟩
  have Jp:ly.res [.ints .i64 (ao (a5 M)),.ints .i64 (ao (a5 M))]= .ints .i64 (ao (a5 M*a5 M)):=by simp only[ly,b5,aZ]
  have ago:j2.pre [.ints .i64 (ao (a5 M*a5 M)),.ints .i64 (ao M)]:=⟨_,_,rfl,by omega⟩
  have NG:uu.pre [.agg [.bool (mk false (cQ M) (q - 1)).neg,.ints .i64 (ao (mk false (cQ M) (q - 1)).m),.int .i64 (mk false (cQ M) (q - 1)).e],.int .i64 n,.bool up]:=⟨_,_,_,rfl,hW,dS,by omega⟩
  have NL:uu.res [.agg [.bool (mk false (cQ M) (q - 1)).neg,.ints .i64 (ao (mk false (cQ M) (q - 1)).m),.int .i64 (mk false (cQ M) (q - 1)).e],.int .i64 n,.bool up]=aI (eo x n up):=by rw[ar];simp only[uu,cd]
  rw[fU]
  unfold Ng Nh
  refine bZ (fun s=>s.ag 1= .d (.int .i64 n)∧s.ag 2= .d (.bool up)∧s.ag 3= .box 3 0∧s.az 3=some ⟨false,false,.cells [.d (.bool x.neg),.d (.ints .i64 (ao x.m)),.d (.int .i64 x.e)]⟩∧s.ag 6= .box 6 0∧(∃bN bs bq,s.az 6=some ⟨false,false,.cells [bN,bs,bq]⟩)) ?_ ?_
  ·simp (maxSteps:=2000000) only[↓al,ak,↓reduceIte,reduceCtorEq,Nat.reduceEqDiff,Nat.reduceLeDiff,Nat.reduceSub,Nat.reduceAdd,Int.reduceToNat,Nat.reducePow,Int.reducePow,Int.reduceLE,Int.reduceLT,IntKind.bits,aI]
   exact⟨_,_,_,rfl⟩
  rintro s ⟨h1,h2,aq,aW,aN,bN,bs,bq,a8⟩
  refine bZ (fun s=>s.ag 1= .d (.int .i64 n)∧s.ag 2= .d (.bool up)∧s.ag 3= .box 3 0∧s.az 3=some ⟨false,false,.cells [.d (.bool x.neg),.d (.ints .i64 (ao x.m)),.d (.int .i64 x.e)]⟩∧s.ag 6= .box 6 0∧(∃bN bs bq,s.az 6=some ⟨false,false,.cells [bN,bs,bq]⟩)) ?_ ?_
  ·simp (maxSteps:=2000000) only[↓al,ak,↓reduceIte,reduceCtorEq,Nat.reduceEqDiff,Nat.reduceLeDiff,Nat.reduceSub,Nat.reduceAdd,Int.reduceToNat,Nat.reducePow,Int.reducePow,Int.reduceLE,Int.reduceLT,IntKind.bits,h1,h2,aq,aW,aN,a8,z0 h0]
   exact⟨_,_,_,rfl⟩
  clear h1 h2 aq aW aN a8
  rintro s ⟨h1,h2,aq,aW,aN,bN,bs,bq,a8⟩
  refine bZ (fun s=>s.ag 7= .d (.int .i64 jw)∧s.ag 1= .d (.int .i64 n)∧s.ag 2= .d (.bool up)∧s.ag 3= .box 3 0∧s.az 3=some ⟨false,false,.cells [.d (.bool x.neg),.d (.ints .i64 (ao x.m)),.d (.int .i64 x.e)]⟩∧s.ag 6= .box 6 0∧(∃bN bs bq,s.az 6=some ⟨false,false,.cells [bN,bs,bq]⟩)) ?_ ?_
  ·simp (maxSteps:=2000000) only[↓al,ak,↓reduceIte,reduceCtorEq,Nat.reduceEqDiff,Nat.reduceLeDiff,Nat.reduceSub,Nat.reduceAdd,Int.reduceToNat,Nat.reducePow,Int.reducePow,Int.reduceLE,Int.reduceLT,IntKind.bits,h1,h2,aq,aW,aN,a8,BB,yG,yH,z3]
   ((repeat' apply And.intro)<;>first|assumption|with_reducible rfl|omega|(simp only[aO];omega)|exact⟨_,rfl⟩|exact⟨_,_,_,rfl⟩|exact⟨_,_,_,_,_,_,rfl⟩)
  clear h1 h2 aq aW aN a8
  rintro s ⟨aM,h1,h2,aq,aW,aN,bN,bs,bq,a8⟩
  refine bZ (fun s=>s.ag 7= .d (.int .i64 k)∧s.ag 1= .d (.int .i64 n)∧s.ag 2= .d (.bool up)∧s.ag 3= .box 3 0∧s.az 3=some ⟨false,false,.cells [.d (.bool x.neg),.d (.ints .i64 (ao x.m)),.d (.int .i64 x.e)]⟩∧s.ag 6= .box 6 0∧(∃bN bs bq,s.az 6=some ⟨false,false,.cells [bN,bs,bq]⟩)) ?_ ?_
  ·by_cases au:(x.e - jw).tmod 2=0
   ·have cT:((x.e - jw).tmod 2==0)=true:=by rw[au];rfl
    have qn:jw=(k:Int):=by have:=Int.emod_emod_of_dvd (x.e - jw) (Int.dvd_refl 2);have h2:=Int.dvd_of_tmod_eq_zero au;omega
    subst qn
    simp (maxSteps:=2000000) only[↓al,ak,↓reduceIte,reduceCtorEq,Nat.reduceEqDiff,Nat.reduceLeDiff,Nat.reduceSub,Nat.reduceAdd,Int.reduceToNat,Nat.reducePow,Int.reducePow,Int.reduceLE,Int.reduceLT,IntKind.bits,aM,h1,h2,aq,aW,aN,a8,cT,bne,Bool.not_true]
    ((repeat' apply And.intro)<;>first|assumption|with_reducible rfl|omega|(simp only[aO];omega)|exact⟨_,rfl⟩|exact⟨_,_,_,rfl⟩|exact⟨_,_,_,_,_,_,rfl⟩)
   ·have cT:((x.e - jw).tmod 2==0)=false:=beq_false_of_ne au
    have qn:jw+1=(k:Int):=by have h2:¬(2:Int)∣x.e - jw:=fun h=>au (Int.tmod_eq_zero_of_dvd h);omega
    simp (maxSteps:=2000000) only[↓al,ak,↓reduceIte,reduceCtorEq,Nat.reduceEqDiff,Nat.reduceLeDiff,Nat.reduceSub,Nat.reduceAdd,Int.reduceToNat,Nat.reducePow,Int.reducePow,Int.reduceLE,Int.reduceLT,IntKind.bits,aM,h1,h2,aq,aW,aN,a8,cT,bne,Bool.not_false,qn]
    ((repeat' apply And.intro)<;>first|assumption|with_reducible rfl|omega|(simp only[aO];omega)|exact⟨_,rfl⟩|exact⟨_,_,_,rfl⟩|exact⟨_,_,_,_,_,_,rfl⟩)
  clear aM h1 h2 aq aW aN a8
  rintro s ⟨aM,h1,h2,aq,aW,aN,bN,bs,bq,a8⟩
  by_cases au:a5 M*a5 M=M
  ·have cf:cQ M=2*a5 M:=by unfold cQ;rw[if_neg (by omega)]
   have VL:j2.res [.ints .i64 (ao (a5 M*a5 M)),.ints .i64 (ao M)]= .bool true:=by simp only[j2,au,decide_true]
   have Ca:dT.pre [.bool false,.ints .i64 (ao (a5 M)),.int .i64 q]:=⟨_,_,_,rfl,by omega,by omega,by omega⟩
   have yk:dT.res [.bool false,.ints .i64 (ao (a5 M)),.int .i64 q]=aI (mk false (cQ M) (q - 1)):=by simp only[dT,b5];rw[cf,alD]
   simp only[aI,aZ]at yk NL
   simp (maxSteps:=2000000) only[↓al,ak,↓reduceIte,reduceCtorEq,Nat.reduceEqDiff,Nat.reduceLeDiff,Nat.reduceSub,Nat.reduceAdd,Int.reduceToNat,Nat.reducePow,Int.reducePow,Int.reduceLE,Int.reduceLT,IntKind.bits,Ab,aI,cd,aM,h1,h2,aq,aW,aN,a8,Cc,Jk,Jl,aek,Jm,Jn,Cd,Jo,Jp,agn,ago,VL,Jj,vQ,Ca,yk,NJ,NG,NL]
   ((repeat' apply And.intro)<;>first|assumption|with_reducible rfl|omega|(simp only[aO];omega)|exact⟨_,rfl⟩|exact⟨_,_,_,rfl⟩|exact⟨_,_,_,_,_,_,rfl⟩)
  ·have cf:cQ M=2*a5 M+1:=by have:=(pf M).1;unfold cQ;rw[if_pos (by omega)]
   have VL:j2.res [.ints .i64 (ao (a5 M*a5 M)),.ints .i64 (ao M)]= .bool false:=by
    simp only[j2]
    rw[decide_eq_false (fun h=>au (Pb h))]
   have aR:bp (2*a5 M)≤bp (cQ M):=yU (by omega)
   have g3:=fo (2*a5 M)
   have pad:hY.pre [.ints .i64 (ao (2*a5 M)),.ints .i64 [1]]:=⟨_,_,rfl,c5 _,by rw[←c7];exact c5 1,by omega,by decide⟩
   have VC:hY.res [.ints .i64 (ao (2*a5 M)),.ints .i64 [1]]= .ints .i64 (ao (cQ M)):=by simp only[hY,←c7,b5,aZ,cf]
   have Ca:dT.pre [.bool false,.ints .i64 (ao (cQ M)),.int .i64 (q - 1)]:=⟨_,_,_,rfl,by omega,by omega,by omega⟩
   have yk:dT.res [.bool false,.ints .i64 (ao (cQ M)),.int .i64 (q - 1)]=aI (mk false (cQ M) (q - 1)):=by simp only[dT,b5]
   simp only[aI,aZ]at yk NL
   simp (maxSteps:=2000000) only[↓al,ak,↓reduceIte,reduceCtorEq,Nat.reduceEqDiff,Nat.reduceLeDiff,Nat.reduceSub,Nat.reduceAdd,Int.reduceToNat,Nat.reducePow,Int.reducePow,Int.reduceLE,Int.reduceLT,IntKind.bits,Ab,aI,cd,aM,h1,h2,aq,aW,aN,a8,Cc,Jk,Jl,Ml,Mm,aek,Jm,Jn,Cd,Jo,Jp,agn,ago,VL,xb,pad,VC,Jj,vQ,Ca,yk,NJ,NG,NL]
   ((repeat' apply And.intro)<;>first|assumption|with_reducible rfl|omega|(simp only[aO];omega)|exact⟨_,rfl⟩|exact⟨_,_,_,rfl⟩|exact⟨_,_,_,_,_,_,rfl⟩)
def yo:bC where
 pre:=fun ds=>∃(x:bP) (k:Int),ds=[aA x,.int .i64 k]∧hj x∧0≤k∧k≤1000
 res:=fun ds=>match ds with
  |[p,.int _ k]=>sm (fe p) k
  |_=> .nilp
theorem apM (Γ:Env) (apN:Γ.has 63 Ab) (agp:Γ.has 62 qu) (ds:List D) (h:yo.pre ds):bT Γ M3 M4 ds fun d=>d=yo.res ds:=by
 obtain⟨x,k,rfl,⟨eu,e5⟩,h1,h2⟩:=h
 have ta:ao 0=[]:=by decide+kernel
 by_cases aG:ia x.lo<0
 ·have ar:sm x k= .fh [aA ⟨⟨false,0,0⟩,⟨false,0,0⟩⟩,.bool false]:=by unfold sm;rw[if_pos aG]
  simp (maxSteps:=2000000) only[↓al,ak,↓reduceIte,reduceCtorEq,Nat.reduceEqDiff,Nat.reduceLeDiff,Nat.reduceSub,Nat.reduceAdd,Int.reduceToNat,Nat.reducePow,Int.reducePow,Int.reduceLE,Int.reduceLT,IntKind.bits,M3,M4,yo,aA,dq,ar,aG,ta,agp,qu,aI,cd]
  first|done|exact⟨x.lo,rfl⟩
 ·have ar:sm x k= .fh [aA (tB x k),.bool true]:=by unfold sm;rw[if_neg aG]
  simp (maxSteps:=2000000) only[↓al,ak,↓reduceIte,reduceCtorEq,Nat.reduceEqDiff,Nat.reduceLeDiff,Nat.reduceSub,Nat.reduceAdd,Int.reduceToNat,Nat.reducePow,Int.reducePow,Int.reduceLE,Int.reduceLT,IntKind.bits,M3,M4,yo,aA,dq,ar,aG,ta,tB,agp,qu,aI,cd,apN,Ab]
  exact⟨⟨x.lo,rfl⟩,⟨x.lo,k,false,rfl,eu,h1,h2⟩,⟨x.hi,k,true,rfl,e5,h1,h2⟩⟩
theorem alE {n j:Nat} (h0:n≠0) (aH:j≤b2 n):n / 2^j=n / 2^b2 n*2^(b2 n - j):=by
 refine Nat.div_eq_of_eq_mul_left (Nat.two_pow_pos _) ?_
 rw[Nat.mul_assoc,←Nat.pow_add,show b2 n - j+j=b2 n by omega]
 exact(jB h0).1.symm
theorem ait {n j:Nat} (h0:n≠0) (aH:j<b2 n):n / 2^j % 2=0:=by
 rw[alE h0 (by omega),show b2 n - j=b2 n - j - 1+1 by omega,Nat.pow_succ,←Nat.mul_assoc]
 exact Nat.mul_mod_left _ _
theorem XX {n j:Nat} (h0:n≠0) (aH:j≤b2 n):0<n / 2^j:=
 Nat.div_pos (Nat.le_trans (Nat.pow_le_pow_right (by decide) aH) (KG h0)) (Nat.two_pow_pos _)
def kp:bC where
 pre:=fun ds=>∃(K:Int) (Q:Nat),ds=[cq K Q]∧Q≤60∧aO K
 res:=fun ds=>match ds with
  |[.agg [.int _ K,.int _ Q]]=>iW (an K Q.toNat)
  |_=> .nilp
theorem NM (Γ:Env) (ds:List D) (h:kp.pre ds):bT Γ UT UU ds fun d=>d=kp.res ds:=by
 obtain⟨K,Q,rfl,cK,cj⟩:=h
 have a1:=ac9 cK
 have h0:=Nat.two_pow_pos Q
 have Bs:Q≤64:=by omega
 have bw:=LF K Q
 have cu:kp.res [cq K Q]=cq (pX K Q) (pY K Q):=by simp only[kp,cq,Int.toNat_natCast];exact(ada K cK).symm
 rw[cu]
 obtain⟨P,N7⟩:∃P:Nat,P=2^Q:=⟨_,rfl⟩
 have ug:(1:Int)*2^Q=(P:Int):=by rw[Int.one_mul,N7];exact_mod_cast rfl
 have au:=PW K Q
 rw[←N7]at au a1 h0 bw
 have jh:=Int.tmod_lt_of_pos K (show (0:Int)<P by omega)
 have Is: -(P:Int)<K.tmod P:=Int.lt_tmod_of_pos K (by omega)
 have ET:(K.tmod P+P).tmod P=(hM K Q:Int):=by
  rw[Int.tmod_eq_emod_of_nonneg (by omega),Int.add_emod_right,←au]
  have:=Int.mul_tdiv_add_tmod K P
  rw[show K.tmod P=K+P*(-(K.tdiv P))by rw[Int.mul_neg];omega,Int.add_mul_emod_self_left]
 have apO:(P:Int)≠0:=by omega
 obtain⟨n,aQ⟩:∃n,n=hM K Q:=⟨_,rfl⟩
 rw[←aQ]at ET bw
 rw[fU]
 unfold UT UU
 refine b3 (fun s=>s.ag 1= .box 1 0∧s.az 1=some ⟨false,false,.cells [.d (.int .i64 K),.d (.int .i64 Q)]⟩∧s.ag 2= .box 2 0∧s.az 2=some ⟨false,false,.cells [.d (.int .i64 0),.d (.int .i64 0)]⟩) ?_ ?_
 ·simp (maxSteps:=2000000) only[↓al,ak,↓reduceIte,reduceCtorEq,Nat.reduceEqDiff,Nat.reduceLeDiff,Nat.reduceSub,Nat.reduceAdd,Int.reduceToNat,Nat.reducePow,Int.reducePow,Int.reduceLE,Int.reduceLT,IntKind.bits,cq]
 rintro s ⟨h1,cy,h2,aR⟩
 refine b3 (fun s=>s.ag 3= .d (.int .i64 P)∧s.ag 1= .box 1 0∧s.az 1=some ⟨false,false,.cells [.d (.int .i64 K),.d (.int .i64 Q)]⟩∧s.ag 2= .box 2 0∧s.az 2=some ⟨false,false,.cells [.d (.int .i64 0),.d (.int .i64 0)]⟩) ?_ ?_
 ·simp (maxSteps:=2000000) only[↓al,ak,↓reduceIte,reduceCtorEq,Nat.reduceEqDiff,Nat.reduceLeDiff,Nat.reduceSub,Nat.reduceAdd,Int.reduceToNat,Nat.reducePow,Int.reducePow,Int.reduceLE,Int.reduceLT,IntKind.bits,h1,cy,h2,aR,Int.toNat_natCast,Bs,ug]
  ((repeat' apply And.intro)<;>first|assumption|with_reducible rfl|omega|(simp only[aO];omega)|exact⟨_,rfl⟩|exact⟨_,_,_,rfl⟩|exact⟨_,_,_,_,_,_,rfl⟩)
 rintro s ⟨aq,h1,cy,h2,aR⟩
 refine b3 (fun s=>s.ag 4= .d (.int .i64 n)∧s.ag 1= .box 1 0∧s.az 1=some ⟨false,false,.cells [.d (.int .i64 K),.d (.int .i64 Q)]⟩∧s.ag 2= .box 2 0∧s.az 2=some ⟨false,false,.cells [.d (.int .i64 0),.d (.int .i64 0)]⟩) ?_ ?_
 ·simp (maxSteps:=2000000) only[↓al,ak,↓reduceIte,reduceCtorEq,Nat.reduceEqDiff,Nat.reduceLeDiff,Nat.reduceSub,Nat.reduceAdd,Int.reduceToNat,Nat.reducePow,Int.reducePow,Int.reduceLE,Int.reduceLT,IntKind.bits,h1,cy,h2,aR,aq,ET,apO]
  ((repeat' apply And.intro)<;>first|assumption|with_reducible rfl|omega|(simp only[aO];omega)|exact⟨_,rfl⟩|exact⟨_,_,_,rfl⟩|exact⟨_,_,_,_,_,_,rfl⟩)
 rintro s ⟨aE,h1,cy,h2,aR⟩
 refine b3 (fun s=>s.ag 5= .d (.int .i64 Q)∧s.ag 4= .d (.int .i64 n)∧s.ag 2= .box 2 0∧s.az 2=some ⟨false,false,.cells [.d (.int .i64 0),.d (.int .i64 0)]⟩) ?_ ?_
 ·simp (maxSteps:=2000000) only[↓al,ak,↓reduceIte,reduceCtorEq,Nat.reduceEqDiff,Nat.reduceLeDiff,Nat.reduceSub,Nat.reduceAdd,Int.reduceToNat,Nat.reducePow,Int.reducePow,Int.reduceLE,Int.reduceLT,IntKind.bits,h1,cy,h2,aR,aE]
 rintro s ⟨aF,aE,h2,aR⟩
 refine bZ (fun s=>s.ag 5= .d (.int .i64 (if n=0 then Q else Q - b2 n:Int))∧s.ag 4= .d (.int .i64 (n / 2^b2 n:Nat))∧s.ag 2= .box 2 0∧s.az 2=some ⟨false,false,.cells [.d (.int .i64 0),.d (.int .i64 0)]⟩) ?_ ?_
 ·simp (maxSteps:=2000000) only[↓al,ak,↓reduceIte,reduceCtorEq,Nat.reduceEqDiff,Nat.reduceLeDiff,Nat.reduceSub,Nat.reduceAdd,Int.reduceToNat,Nat.reducePow,Int.reducePow,Int.reduceLE,Int.reduceLT,IntKind.bits]
  refine fp (fun s=>∃j:Nat,s.ag 5= .d (.int .i64 (Q - j))∧s.ag 4= .d (.int .i64 (n / 2^j:Nat))∧s.ag 2= .box 2 0∧s.az 2=some ⟨false,false,.cells [.d (.int .i64 0),.d (.int .i64 0)]⟩∧(n=0→j=0)∧(n≠0→j≤b2 n))
   (fun s=>match s.ag 4 with| .d (.int _ n)=>n.toNat|_=>0) ?_ ?_
  ·exact⟨0,by rw[aF];simp,by rw[aE];simp,h2,aR,fun _=>rfl,fun _=>Nat.zero_le _⟩
  ·rintro s ⟨j,aF,aE,h2,aR,arA,N1⟩
   obtain⟨k,af⟩:∃k,k=n / 2^j:=⟨_,rfl⟩
   rw[←af]at aE
   have zV:k≤n:=af▸Nat.div_le_self _ _
   have agq:(k:Int).tmod 2=((k % 2:Nat):Int):=by rw[Int.tmod_eq_emod_of_nonneg (by omega)];omega
   have Vn:(k:Int).tdiv 2=((k / 2:Nat):Int):=by rw[Int.tdiv_eq_ediv_of_nonneg (by omega)];omega
   by_cases dS:n=0
   ·have Cv:=arA dS
    subst Cv
    have ek:k=0:=by rw[af,dS]
    have bR:¬((k:Int)>0):=by omega
    simp (maxSteps:=2000000) only[↓al,ak,↓reduceIte,reduceCtorEq,Nat.reduceEqDiff,Nat.reduceLeDiff,Nat.reduceSub,Nat.reduceAdd,Int.reduceToNat,Nat.reducePow,Int.reducePow,Int.reduceLE,Int.reduceLT,IntKind.bits,aF,aE,h2,aR,bR]
    rw[if_pos dS,dS,ek]
    exact⟨by simp,by simp⟩
   ·have aH:=N1 dS
    have cV:0<k:=af▸XX dS aH
    have bR:(k:Int)>0:=by omega
    by_cases agr:j<b2 n
    ·have WJ:k % 2=0:=af▸ait dS agr
     have cN:(((k % 2:Nat):Int)==0)=true:=by rw[WJ];rfl
     simp (maxSteps:=2000000) only[↓al,ak,↓reduceIte,reduceCtorEq,Nat.reduceEqDiff,Nat.reduceLeDiff,Nat.reduceSub,Nat.reduceAdd,Int.reduceToNat,Nat.reducePow,Int.reducePow,Int.reduceLE,Int.reduceLT,IntKind.bits,aF,aE,h2,aR,bR,agq,Vn,cN,Int.toNat_natCast]
     have:b2 n<Q:=x1 dS (N7▸bw)
     refine⟨by decide,by decide,by simp only[aO];omega,by simp only[aO];omega,⟨j+1,by omega,?_,fun h=>absurd h dS,fun _=>agr⟩,by omega⟩
     rw[af,Nat.pow_succ,Nat.div_div_eq_div_mul]
    ·have Cv:j=b2 n:=by omega
     have WJ:k % 2=1:=by rw[af,Cv];exact(jB dS).2
     have cN:(((k % 2:Nat):Int)==0)=false:=by rw[WJ];rfl
     simp (maxSteps:=2000000) only[↓al,ak,↓reduceIte,reduceCtorEq,Nat.reduceEqDiff,Nat.reduceLeDiff,Nat.reduceSub,Nat.reduceAdd,Int.reduceToNat,Nat.reducePow,Int.reducePow,Int.reduceLE,Int.reduceLT,IntKind.bits,aF,aE,h2,aR,bR,agq,cN,if_neg dS]
     rw[af,Cv]
     exact⟨by decide,rfl,rfl⟩
 rintro s ⟨aF,aE,h2,aR⟩
 by_cases dS:n=0
 ·have a4:pX K Q=0:=by unfold pX;rw[←aQ,dS];exact Nat.zero_div _
  have bc:pY K Q=0:=by unfold pY;rw[←aQ,if_pos dS]
  have Vt:((pX K Q:Nat):Int)=0:=by rw[a4];rfl
  have Vu:((pY K Q:Nat):Int)=0:=by rw[bc];rfl
  have c8:((n / 2^b2 n:Nat):Int)=0:=by rw[dS,Nat.zero_div];rfl
  rw[c8]at aE
  simp (maxSteps:=2000000) only[↓al,ak,↓reduceIte,reduceCtorEq,Nat.reduceEqDiff,Nat.reduceLeDiff,Nat.reduceSub,Nat.reduceAdd,Int.reduceToNat,Nat.reducePow,Int.reducePow,Int.reduceLE,Int.reduceLT,IntKind.bits,aF,aE,h2,aR,beq_self_eq_true,Vt,Vu,cq]
 ·have a4:((n / 2^b2 n:Nat):Int)=pX K Q:=by unfold pX;rw[←aQ]
  have bc:(Q:Int) - b2 n=(pY K Q:Int):=by
   have:b2 n<Q:=x1 dS (N7▸bw)
   unfold pY;rw[←aQ,if_neg dS];omega
  have aw:((pX K Q:Int)==0)=false:=by
   have:=XX dS (Nat.le_refl _)
   exact beq_false_of_ne (by omega)
  rw[if_neg dS,bc]at aF
  rw[a4]at aE
  simp (maxSteps:=2000000) only[↓al,ak,↓reduceIte,reduceCtorEq,Nat.reduceEqDiff,Nat.reduceLeDiff,Nat.reduceSub,Nat.reduceAdd,Int.reduceToNat,Nat.reducePow,Int.reducePow,Int.reduceLE,Int.reduceLT,IntKind.bits,aF,aE,h2,aR,aw,cq]
theorem yp (K:Int) (Q:Nat):kp.res [.agg [.int .i64 K,.int .i64 Q]]= .agg [.int .i64 (bS (an K Q)),.int .i64 (a2 (an K Q))]:=by simp only[kp,Int.toNat_natCast];rfl
theorem i80 {K:Int} {Q:Nat} (h:Q≤60) (ar:aO K):kp.pre [.agg [.int .i64 K,.int .i64 Q]]:=⟨K,Q,rfl,h,ar⟩
def xc:bC where
 pre:=fun ds=>∃(K:Int) (Q:Nat),ds=[cq K Q]∧Q≤60∧aO (-K)
 res:=fun ds=>match ds with
  |[.agg [.int _ K,.int _ Q]]=>iW (an (-K) Q.toNat)
  |_=> .nilp
theorem apP (Γ:Env) (pM:Γ.has 80 kp) (ds:List D) (h:xc.pre ds):bT Γ Un Uo ds fun d=>d=xc.res ds:=by
 obtain⟨K,Q,rfl,cK,ar⟩:=h
 have cu:xc.res [cq K Q]=iW (an (-K) Q):=by simp only[xc,cq,Int.toNat_natCast]
 rw[cu]
 have p1:=i80 cK ar
 have bX:=yp (-K) Q
 simp (maxSteps:=2000000) only[↓al,ak,↓reduceIte,reduceCtorEq,Nat.reduceEqDiff,Nat.reduceLeDiff,Nat.reduceSub,Nat.reduceAdd,Int.reduceToNat,Nat.reducePow,Int.reducePow,Int.reduceLE,Int.reduceLT,IntKind.bits,Un,Uo,cq,pM,Int.zero_sub,p1,bX,ar,iW]
theorem apQ (K:Int) (Q:Nat):xc.res [.agg [.int .i64 K,.int .i64 Q]]= .agg [.int .i64 (bS (an (-K) Q)),.int .i64 (a2 (an (-K) Q))]:=by simp only[xc,Int.toNat_natCast];rfl
def rC:bC where
 pre:=fun ds=>∃(K:Int) (Q q:Nat),ds=[cq K Q,.int .i64 q]∧Q≤q∧q≤60∧aO K
 res:=fun ds=>match ds with
  |[.agg [.int _ K,.int _ Q],.int _ q]=> .int .i64 (an K Q.toNat / 2^(60 - q.toNat):Nat)
  |_=> .nilp
theorem VM (Γ:Env) (pM:Γ.has 80 kp) (ds:List D) (h:rC.pre ds):bT Γ Va Vb ds fun d=>d=rC.res ds:=by
 obtain⟨K,Q,q,rfl,cK,a7,ar⟩:=h
 have cu:rC.res [cq K Q,.int .i64 q]= .int .i64 (an K Q / 2^(60 - q):Nat):=by simp only[rC,cq,Int.toNat_natCast]
 rw[cu]
 have ael:Q≤60:=by omega
 have p1:=i80 ael ar
 have bX:=yp K Q
 have hO:=qa K ael
 obtain⟨a,a9⟩:∃a,a=an K Q:=⟨_,rfl⟩
 have cI:a<1152921504606846976:=a9▸hv K Q
 rw[←a9]at bX hO⊢
 have s1:(q:Int) - (a2 a:Int)=((q - a2 a:Nat):Int):=by omega
 have cC:=C9 cI (by omega:a2 a≤q) a7
 have b8:(bS a:Int)*2^(q - a2 a)=((a / 2^(60 - q):Nat):Int):=by rw[←cC,Int.natCast_mul];exact_mod_cast rfl
 have bs:a / 2^(60 - q)≤a:=Nat.div_le_self _ _
 have hh:q - a2 a≤64:=by omega
 simp (maxSteps:=2000000) only[↓al,ak,↓reduceIte,reduceCtorEq,Nat.reduceEqDiff,Nat.reduceLeDiff,Nat.reduceSub,Nat.reduceAdd,Int.reduceToNat,Nat.reducePow,Int.reducePow,Int.reduceLE,Int.reduceLT,IntKind.bits,Va,Vb,cq,pM,p1,bX,s1,Int.toNat_natCast,hh,b8]
 ((repeat' apply And.intro)<;>first|assumption|with_reducible rfl|omega|(simp only[aO];omega)|exact⟨_,rfl⟩|exact⟨_,_,_,rfl⟩|exact⟨_,_,_,_,_,_,rfl⟩)
theorem VN (K:Int) (Q q:Nat):rC.res [.agg [.int .i64 K,.int .i64 Q],.int .i64 q]= .int .i64 (an K Q / 2^(60 - q):Nat):=by simp only[rC,Int.toNat_natCast]
def rD:bC where
 pre:=fun ds=>∃(K:Int) (Q:Nat) (L:Int) (R:Nat),ds=[cq K Q,cq L R]∧Q≤60∧R≤60∧aO K∧aO L
 res:=fun ds=>match ds with
  |[.agg [.int _ K,.int _ Q],.agg [.int _ L,.int _ R]]=>iW ((an K Q.toNat+an L R.toNat) % 1152921504606846976)
  |_=> .nilp
theorem PY (K:Int) {Q q:Nat} (h1:Q≤q) (h2:q≤60):an K Q / 2^(60 - q)*2^(60 - q)=an K Q:=by
 have h:=hv K Q
 have g:=qa K (by omega:Q≤60)
 rw[←C9 h (by omega:a2 (an K Q)≤q) h2,Nat.mul_assoc,←Nat.pow_add,show q - a2 (an K Q)+(60 - q)=60 - a2 (an K Q)by omega,Be h]
theorem ags (Γ:Env) (pM:Γ.has 80 kp) (VO:Γ.has 95 rC) (ds:List D) (h:rD.pre ds):bT Γ Up Uq ds fun d=>d=rD.res ds:=by
 obtain⟨K,Q,L,R,rfl,cK,en,cj,dO⟩:=h
 have cu:rD.res [cq K Q,cq L R]=iW ((an K Q+an L R) % 1152921504606846976):=by simp only[rD,cq,Int.toNat_natCast]
 rw[cu]
 obtain⟨q,a7⟩:∃q,q=max Q R:=⟨_,rfl⟩
 have dw:Q≤q:=by omega
 have eK:R≤q:=by omega
 have e9:q≤60:=by omega
 have p1:rC.pre [.agg [.int .i64 K,.int .i64 Q],.int .i64 q]:=⟨K,Q,q,rfl,dw,e9,cj⟩
 have cU:rC.pre [.agg [.int .i64 L,.int .i64 R],.int .i64 q]:=⟨L,R,q,rfl,eK,e9,dO⟩
 have bX:=VN K Q q
 have ch:=VN L R q
 have b1:=PY K dw e9
 have ep:=PY L eK e9
 have cI:=hv K Q
 have dC:=hv L R
 obtain⟨a,a9⟩:∃a,a=an K Q / 2^(60 - q):=⟨_,rfl⟩
 obtain⟨b,aw⟩:∃b,b=an L R / 2^(60 - q):=⟨_,rfl⟩
 have bs:a≤an K Q:=a9▸Nat.div_le_self _ _
 have bq:b≤an L R:=aw▸Nat.div_le_self _ _
 rw[←a9]at bX b1
 rw[←aw]at ch ep
 have i3:aO ((a:Int)+b):=by simp only[aO];omega
 have gT:=i80 e9 i3
 have gS:=yp ((a:Int)+b) q
 have c8:an ((a:Int)+b) q=(an K Q+an L R) % 1152921504606846976:=by
  rw[ach,Hh,Hh,b1,ep];omega
 rw[c8]at gS
 rw[fU]
 unfold Up Uq
 refine b3 (fun s=>s.ag 2= .box 2 0∧s.az 2=some ⟨false,false,.cells [.d (.int .i64 K),.d (.int .i64 Q)]⟩∧s.ag 3= .box 3 0∧s.az 3=some ⟨false,false,.cells [.d (.int .i64 L),.d (.int .i64 R)]⟩∧s.ag 4= .box 4 0∧s.az 4=some ⟨false,false,.cells [.d (.int .i64 0),.d (.int .i64 0)]⟩) ?_ ?_
 ·simp (maxSteps:=2000000) only[↓al,ak,↓reduceIte,reduceCtorEq,Nat.reduceEqDiff,Nat.reduceLeDiff,Nat.reduceSub,Nat.reduceAdd,Int.reduceToNat,Nat.reducePow,Int.reducePow,Int.reduceLE,Int.reduceLT,IntKind.bits,cq]
 rintro s ⟨h2,aR,aq,aW,aE,aS⟩
 refine b3 (fun s=>s.ag 5= .d (.int .i64 q)∧s.ag 2= .box 2 0∧s.az 2=some ⟨false,false,.cells [.d (.int .i64 K),.d (.int .i64 Q)]⟩∧s.ag 3= .box 3 0∧s.az 3=some ⟨false,false,.cells [.d (.int .i64 L),.d (.int .i64 R)]⟩∧s.ag 4= .box 4 0∧s.az 4=some ⟨false,false,.cells [.d (.int .i64 0),.d (.int .i64 0)]⟩) ?_ ?_
 ·simp (maxSteps:=2000000) only[↓al,ak,↓reduceIte,reduceCtorEq,Nat.reduceEqDiff,Nat.reduceLeDiff,Nat.reduceSub,Nat.reduceAdd,Int.reduceToNat,Nat.reducePow,Int.reducePow,Int.reduceLE,Int.reduceLT,IntKind.bits,h2,aR,aq,aW,aE,aS]
  split<;>omega
 rintro s ⟨aF,h2,aR,aq,aW,aE,aS⟩
 simp (maxSteps:=2000000) only[↓al,ak,↓reduceIte,reduceCtorEq,Nat.reduceEqDiff,Nat.reduceLeDiff,Nat.reduceSub,Nat.reduceAdd,Int.reduceToNat,Nat.reducePow,Int.reducePow,Int.reduceLE,Int.reduceLT,IntKind.bits,aF,h2,aR,aq,aW,aE,aS,VO,p1,bX,cU,ch,pM,gT,gS,iW,cq]
 ((repeat' apply And.intro)<;>first|assumption|with_reducible rfl|omega|(simp only[aO];omega)|exact⟨_,rfl⟩|exact⟨_,_,_,rfl⟩|exact⟨_,_,_,_,_,_,rfl⟩)
def x3:bC where
 pre:=fun ds=>∃(K:Int) (Q:Nat),ds=[cq K Q]∧Q≤60∧aO K
 res:=fun ds=>match ds with
  |[.agg [.int _ K,.int _ Q]]=>yh (an K Q.toNat)
  |_=> .nilp
theorem ang (Γ:Env) (pM:Γ.has 80 kp) (VO:Γ.has 95 rC) (ds:List D) (h:x3.pre ds):bT Γ Sc Sd ds fun d=>d=x3.res ds:=by
 obtain⟨K,Q,rfl,cK,cj⟩:=h
 have cu:x3.res [cq K Q]=yh (an K Q):=by simp only[x3,cq,Int.toNat_natCast]
 rw[cu]
 obtain⟨q,a7⟩:∃q,q=max Q 3:=⟨_,rfl⟩
 have dw:Q≤q:=by omega
 have eK:3≤q:=by omega
 have e9:q≤60:=by omega
 have p1:rC.pre [.agg [.int .i64 K,.int .i64 Q],.int .i64 q]:=⟨K,Q,q,rfl,dw,e9,cj⟩
 have bX:=VN K Q q
 have b1:=PY K dw e9
 obtain⟨a,a9⟩:∃a,a=an K Q:=⟨_,rfl⟩
 have cI:a<1152921504606846976:=a9▸hv K Q
 rw[←a9]at bX b1⊢
 obtain⟨k,af⟩:∃k,k=a / 2^(60 - q):=⟨_,rfl⟩
 rw[←af]at bX b1
 have asD:k≤a:=af▸Nat.div_le_self _ _
 obtain⟨o,bu⟩:∃o,o=2^(q - 3):=⟨_,rfl⟩
 have as9:0<o:=bu▸Nat.two_pow_pos _
 have v3:o≤144115188075855872:=bu▸Nat.pow_le_pow_right (n:=2) (by decide) (by omega:q - 3≤57)
 have WK:o*2^(60 - q)=144115188075855872:=by rw[bu,←Nat.pow_add,show q - 3+(60 - q)=57 by omega]
 have sh:(1:Int)*2^(q - 3)=(o:Int):=by rw[Int.one_mul,bu];exact_mod_cast rfl
 have s1:(q:Int) - 3=((q - 3:Nat):Int):=by omega
 have hh:q - 3≤64:=by omega
 have xt:(o:Int)≠0:=by omega
 have Gb:k / o=cw a:=by
  unfold cw
  rw[af,Nat.div_div_eq_div_mul,Nat.mul_comm,WK]
 have arB:(k:Int).tdiv o=(cw a:Int):=by rw[Int.tdiv_eq_ediv_of_nonneg (by omega),←Gb];exact_mod_cast rfl
 have eN:=Bf cI
 have JM:(cw a:Int).tmod 2=((cw a % 2:Nat):Int):=by rw[Int.tmod_eq_emod_of_nonneg (by omega)];omega
 have ata:cw a*o≤k:=by rw[←Gb];exact Nat.div_mul_le_self _ _
 have asE:(cw a+1)*o≤1152921504606846976:=Nat.le_trans (Nat.mul_le_mul (by omega:cw a+1≤8) v3) (by decide)
 have bR:(cw a:Int)*(o:Int)=((cw a*o:Nat):Int):=(Int.natCast_mul _ _).symm
 have cN:((cw a:Int)+1)*(o:Int)=(((cw a+1)*o:Nat):Int):=by rw[Int.natCast_mul];exact_mod_cast rfl
 have ep:cw a*o*2^(60 - q)=cw a*144115188075855872:=by rw[Nat.mul_assoc,WK]
 have oP:(cw a+1)*o*2^(60 - q)=(cw a+1)*144115188075855872:=by rw[Nat.mul_assoc,WK]
 have i1:aO ((k:Int) - ((cw a*o:Nat):Int)):=by simp only[aO];omega
 have i2:aO ((((cw a+1)*o:Nat):Int) - k):=by simp only[aO];omega
 rw[fU]
 unfold Sc Sd
 refine b3 (fun s=>s.ag 1= .box 1 0∧s.az 1=some ⟨false,false,.cells [.d (.int .i64 K),.d (.int .i64 Q)]⟩∧s.ag 2= .box 2 0∧s.az 2=some ⟨false,false,.cells [.d (.int .i64 0),.d (.int .i64 0),.d (.int .i64 0)]⟩) ?_ ?_
 ·simp (maxSteps:=2000000) only[↓al,ak,↓reduceIte,reduceCtorEq,Nat.reduceEqDiff,Nat.reduceLeDiff,Nat.reduceSub,Nat.reduceAdd,Int.reduceToNat,Nat.reducePow,Int.reducePow,Int.reduceLE,Int.reduceLT,IntKind.bits,cq]
 rintro s ⟨h1,cy,h2,aR⟩
 refine b3 (fun s=>s.ag 3= .d (.int .i64 q)∧s.ag 1= .box 1 0∧s.az 1=some ⟨false,false,.cells [.d (.int .i64 K),.d (.int .i64 Q)]⟩∧s.ag 2= .box 2 0∧s.az 2=some ⟨false,false,.cells [.d (.int .i64 0),.d (.int .i64 0),.d (.int .i64 0)]⟩) ?_ ?_
 ·simp (maxSteps:=2000000) only[↓al,ak,↓reduceIte,reduceCtorEq,Nat.reduceEqDiff,Nat.reduceLeDiff,Nat.reduceSub,Nat.reduceAdd,Int.reduceToNat,Nat.reducePow,Int.reducePow,Int.reduceLE,Int.reduceLT,IntKind.bits,h1,cy,h2,aR]
  split<;>omega
 rintro s ⟨aq,h1,cy,h2,aR⟩
 refine b3 (fun s=>s.ag 4= .d (.int .i64 k)∧s.ag 3= .d (.int .i64 q)∧s.ag 2= .box 2 0∧s.az 2=some ⟨false,false,.cells [.d (.int .i64 0),.d (.int .i64 0),.d (.int .i64 0)]⟩) ?_ ?_
 ·simp (maxSteps:=2000000) only[↓al,ak,↓reduceIte,reduceCtorEq,Nat.reduceEqDiff,Nat.reduceLeDiff,Nat.reduceSub,Nat.reduceAdd,Int.reduceToNat,Nat.reducePow,Int.reducePow,Int.reduceLE,Int.reduceLT,IntKind.bits,h1,cy,h2,aR,aq,VO,p1,bX]
 rintro s ⟨aE,aq,h2,aR⟩
 refine b3 (fun s=>s.ag 5= .d (.int .i64 o)∧s.ag 4= .d (.int .i64 k)∧s.ag 3= .d (.int .i64 q)∧s.ag 2= .box 2 0∧s.az 2=some ⟨false,false,.cells [.d (.int .i64 0),.d (.int .i64 0),.d (.int .i64 0)]⟩) ?_ ?_
 ·simp (maxSteps:=2000000) only[↓al,ak,↓reduceIte,reduceCtorEq,Nat.reduceEqDiff,Nat.reduceLeDiff,Nat.reduceSub,Nat.reduceAdd,Int.reduceToNat,Nat.reducePow,Int.reducePow,Int.reduceLE,Int.reduceLT,IntKind.bits,aE,aq,h2,aR,s1,Int.toNat_natCast,hh,sh]
  ((repeat' apply And.intro)<;>first|assumption|with_reducible rfl|omega|(simp only[aO];omega)|exact⟨_,rfl⟩|exact⟨_,_,_,rfl⟩|exact⟨_,_,_,_,_,_,rfl⟩)
 rintro s ⟨aF,aE,aq,h2,aR⟩
 refine b3 (fun s=>s.ag 6= .d (.int .i64 (cw a))∧s.ag 5= .d (.int .i64 o)∧s.ag 4= .d (.int .i64 k)∧s.ag 3= .d (.int .i64 q)∧s.ag 2= .box 2 0∧s.az 2=some ⟨false,false,.cells [.d (.int .i64 0),.d (.int .i64 0),.d (.int .i64 0)]⟩) ?_ ?_
 ·simp (maxSteps:=2000000) only[↓al,ak,↓reduceIte,reduceCtorEq,Nat.reduceEqDiff,Nat.reduceLeDiff,Nat.reduceSub,Nat.reduceAdd,Int.reduceToNat,Nat.reducePow,Int.reducePow,Int.reduceLE,Int.reduceLT,IntKind.bits,aF,aE,aq,h2,aR,arB,xt]
  ((repeat' apply And.intro)<;>first|assumption|with_reducible rfl|omega|(simp only[aO];omega)|exact⟨_,rfl⟩|exact⟨_,_,_,rfl⟩|exact⟨_,_,_,_,_,_,rfl⟩)
 rintro s ⟨aN,aF,aE,aq,h2,aR⟩
 by_cases he:cw a % 2=0
 ·have aw:(((cw a % 2:Nat):Int)==0)=true:=by rw[he];rfl
  have cU:=i80 e9 i1
  have ch:=yp ((k:Int) - ((cw a*o:Nat):Int)) q
  have bc:an ((k:Int) - ((cw a*o:Nat):Int)) q=cz a:=by
   unfold an cz
   rw[if_pos he,Int.sub_mul,←Int.natCast_mul,←Int.natCast_mul,b1,ep]
   have aG:cw a*144115188075855872≤a:=by unfold cw;exact Nat.div_mul_le_self _ _
   generalize cw a*144115188075855872=x at aG
   rw[Int.emod_eq_of_lt (by omega) (by omega),←Int.ofNat_sub aG,Int.toNat_natCast]
  rw[bc]at ch
  simp (maxSteps:=2000000) only[↓al,ak,↓reduceIte,reduceCtorEq,Nat.reduceEqDiff,Nat.reduceLeDiff,Nat.reduceSub,Nat.reduceAdd,Int.reduceToNat,Nat.reducePow,Int.reducePow,Int.reduceLE,Int.reduceLT,IntKind.bits,aN,aF,aE,aq,h2,aR,JM,aw,bR,pM,cU,ch,yh]
  ((repeat' apply And.intro)<;>first|assumption|with_reducible rfl|omega|(simp only[aO];omega)|exact⟨_,rfl⟩|exact⟨_,_,_,rfl⟩|exact⟨_,_,_,_,_,_,rfl⟩)
 ·have aw:(((cw a % 2:Nat):Int)==0)=false:=beq_false_of_ne (by omega)
  have cU:=i80 e9 i2
  have ch:=yp ((((cw a+1)*o:Nat):Int) - k) q
  have bc:an ((((cw a+1)*o:Nat):Int) - k) q=cz a:=by
   unfold an cz
   rw[if_neg he,Int.sub_mul,←Int.natCast_mul,←Int.natCast_mul,b1,oP]
   unfold cw at*
   omega
  rw[bc]at ch
  simp (maxSteps:=2000000) only[↓al,ak,↓reduceIte,reduceCtorEq,Nat.reduceEqDiff,Nat.reduceLeDiff,Nat.reduceSub,Nat.reduceAdd,Int.reduceToNat,Nat.reducePow,Int.reducePow,Int.reduceLE,Int.reduceLT,IntKind.bits,aN,aF,aE,aq,h2,aR,JM,aw,cN,pM,cU,ch,yh]
  ((repeat' apply And.intro)<;>first|assumption|with_reducible rfl|omega|(simp only[aO];omega)|exact⟨_,rfl⟩|exact⟨_,_,_,rfl⟩|exact⟨_,_,_,_,_,_,rfl⟩)
def BD:bC where
 pre:=fun ds=>∃e:Int,ds=[.int .i64 e]∧0≤e∧e≤7
 res:=q5.res
theorem anh (Γ:Env) (ds:List D) (h:BD.pre ds):bT Γ Sg Sh ds fun d=>d=BD.res ds:=by
 obtain⟨e,rfl,ao2,he⟩:=h
 have:e=0∨e=1∨e=2∨e=3∨e=4∨e=5∨e=6∨e=7:=by omega
 rcases this with rfl|rfl|rfl|rfl|rfl|rfl|rfl|rfl<;>
  (simp (maxSteps:=2000000) only[↓al,ak,↓reduceIte,reduceCtorEq,Nat.reduceEqDiff,Nat.reduceLeDiff,Nat.reduceSub,Nat.reduceAdd,Int.reduceToNat,Nat.reducePow,Int.reducePow,Int.reduceLE,Int.reduceLT,IntKind.bits,Sg,Sh,BD,q5,Int.reduceGT,Int.reduceGE,Int.reduceBEq,or_self,or_true,true_or,Int.reduceEq]<;>decide)
def uw:bC where
 pre:=fun ds=>∃(K:Int) (Q:Int),ds=[cq K Q]
 res:=fun ds=>match ds with
  |[.agg [.int _ K,.int _ Q]]=> .bool (decide (0≤Q∧Q≤40∧-1099511627776≤K∧K≤1099511627776))
  |_=> .nilp
theorem FK (Γ:Env) (ds:List D) (h:uw.pre ds):bT Γ UP UQ ds fun d=>d=uw.res ds:=by
 obtain⟨K,Q,rfl⟩:=h
 by_cases h1:0≤Q<;>by_cases h2:Q≤40<;>by_cases aq: -1099511627776≤K<;>by_cases aE:K≤1099511627776<;>
  simp (maxSteps:=2000000) only[↓al,ak,↓reduceIte,reduceCtorEq,Nat.reduceEqDiff,Nat.reduceLeDiff,Nat.reduceSub,Nat.reduceAdd,Int.reduceToNat,Nat.reducePow,Int.reducePow,Int.reduceLE,Int.reduceLT,IntKind.bits,UP,UQ,uw,cq,h1,h2,aq,aE,ge_iff_le,and_self,and_true,true_and,and_false,false_and]
def d1:a6:=⟨false,1,0⟩
theorem vS:mk false 1 0=d1:=by decide+kernel
theorem c7:ao 1=[1]:=by decide+kernel
theorem agt:bO d1:=by rw[←vS];exact sg (fun _=>by decide+kernel)
def qi:bC where
 pre:=fun ds=>ds=[.int .i64 1]
 res:=fun ds=>aI d1
theorem Ep (Γ:Env) (VP:Γ.has 86 iN) (NN:Γ.has 87 e1) (ds:List D) (h:qi.pre ds):bT Γ R3 R4 ds fun d=>d=qi.res ds:=by
 cases h
 have p1:iN.pre [.int .i64 1]:=⟨1,rfl,by simp only[aO];omega⟩
 have bX:iN.res [.int .i64 1]= .ints .i64 [1]:=by simp only[iN,aZ,Int.reduceToNat,c7]
 have cU:e1.pre [.bool false,.ints .i64 [1],.int .i64 0]:=⟨false,1,0,by rw[aZ,c7],by rw[c7];decide,by omega,by omega⟩
 have v1:val [1]=1:=by rw[←c7];exact b5 1
 have ch:e1.res [.bool false,.ints .i64 [1],.int .i64 0]=aI d1:=by simp only[e1,v1,vS]
 simp (maxSteps:=2000000) only[↓al,ak,↓reduceIte,reduceCtorEq,Nat.reduceEqDiff,Nat.reduceLeDiff,Nat.reduceSub,Nat.reduceAdd,Int.reduceToNat,Nat.reducePow,Int.reducePow,Int.reduceLE,Int.reduceLT,IntKind.bits,R3,R4,VP,NN,p1,bX,cU,ch,qi,aI,Int.reduceGT,Int.reduceNeg,Int.reduceSub,Int.zero_sub]
 ((repeat' apply And.intro)<;>first|assumption|with_reducible rfl|omega|(simp only[aO];omega)|exact⟨_,rfl⟩|exact⟨_,_,_,rfl⟩|exact⟨_,_,_,_,_,_,rfl⟩)
def g7 (x:a6) (n:Int):a6:=if 0≤x.e+n then x else mk x.neg (x.m / 2^(-x.e - n).toNat+if x.neg then 1 else 0) (-n)
def hF:bC where
 pre:=fun ds=>∃(x:a6) (n:Int),ds=[aI x,.int .i64 n]∧bO x∧0≤n∧n≤1000
 res:=fun ds=>match ds with
  |[p,.int _ n]=>aI (g7 (eA p) n)
  |_=> .nilp
theorem FL (Γ:Env) (VQ:Γ.has 64 hb) (apR:Γ.has 84 jH) (apS:Γ.has 85 jo) (VP:Γ.has 86 iN) (NN:Γ.has 87 e1) (ds:List D) (h:hF.pre ds):bT Γ Ud Ue ds fun d=>d=hF.res ds:=by
 obtain⟨x,n,rfl,aj,dS,jm⟩:=h
 have ex:=kK aj
 have da:=hn aj
 have cu:hF.res [aI x,.int .i64 n]=aI (g7 x n):=by simp only[hF,aI,aZ,cd]
 rw[cu]
 unfold g7
 rw[fU]
 unfold Ud Ue
 refine b3 (fun s=>s.ag 1= .d (.int .i64 n)∧s.ag 2= .box 2 0∧s.az 2=some ⟨false,false,.cells [.d (.bool x.neg),.d (.ints .i64 (ao x.m)),.d (.int .i64 x.e)]⟩∧s.ag 4= .box 4 0∧s.az 4=some ⟨false,false,.cells [.d (.bool false),.d (.ints .i64 []),.d (.int .i64 0)]⟩) ?_ ?_
 ·simp (maxSteps:=2000000) only[↓al,ak,↓reduceIte,reduceCtorEq,Nat.reduceEqDiff,Nat.reduceLeDiff,Nat.reduceSub,Nat.reduceAdd,Int.reduceToNat,Nat.reducePow,Int.reducePow,Int.reduceLE,Int.reduceLT,IntKind.bits,aI]
 rintro s ⟨h1,h2,aR,aE,aS⟩
 by_cases af:0≤x.e+n
 ·have cn:x.e+n≥0:=af
  have v9:hb.pre [.agg [.bool x.neg,.ints .i64 (ao x.m),.int .i64 x.e],.int .i64 0]:=⟨x,0,rfl,aj,by omega,by omega⟩
  have wc:hb.res [.agg [.bool x.neg,.ints .i64 (ao x.m),.int .i64 x.e],.int .i64 0]= .agg [.bool x.neg,.ints .i64 (ao x.m),.int .i64 x.e]:=by
   simp only[hb,cd,Kh aj.1,aI,aZ]
  rw[if_pos af]
  simp (maxSteps:=2000000) only[↓al,ak,↓reduceIte,reduceCtorEq,Nat.reduceEqDiff,Nat.reduceLeDiff,Nat.reduceSub,Nat.reduceAdd,Int.reduceToNat,Nat.reducePow,Int.reducePow,Int.reduceLE,Int.reduceLT,IntKind.bits,h1,h2,aR,aE,aS,cn,VQ,v9,wc,aI]
  ((repeat' apply And.intro)<;>first|assumption|with_reducible rfl|omega|(simp only[aO];omega)|exact⟨_,rfl⟩|exact⟨_,_,_,rfl⟩|exact⟨_,_,_,_,_,_,rfl⟩)
 ·have cn:¬(x.e+n≥0):=af
  obtain⟨k,ek⟩:∃k:Int,k= -x.e - n:=⟨_,rfl⟩
  have MW: -x.e - n=k:=ek.symm
  obtain⟨M,cJ⟩:∃M,M=x.m / 2^k.toNat:=⟨_,rfl⟩
  have ug:jH.res [.ints .i64 (ao x.m),.int .i64 k]= .ints .i64 (ao M):=by simp only[jH,b5,←cJ,aZ]
  have z6:jH.pre [.ints .i64 (ao x.m),.int .i64 k]:=⟨_,_,rfl,c5 _,by omega,by simp only[aO];omega⟩
  have WL:x.m<16777216^(ao x.m).length:=by have:=kb (c5 x.m);rwa [b5]at this
  have VR:M≤x.m:=cJ▸Nat.div_le_self _ _
  have apT:(ao (M+1)).length≤(ao x.m).length+1:=yT (by rw[Nat.pow_succ];omega)
  have JK:(ao M).length≤(ao x.m).length:=yT (Nat.lt_of_le_of_lt VR WL)
  rw[if_neg af,←ek,←cJ]
  refine b3 (fun s=>s.ag 1= .d (.int .i64 n)∧s.ag 2= .box 2 0∧s.az 2=some ⟨false,false,.cells [.d (.bool x.neg),.d (.ints .i64 (ao x.m)),.d (.int .i64 x.e)]⟩∧s.ag 4= .box 4 0∧s.az 4=some ⟨false,false,.cells [.d (.bool false),.d (.ints .i64 []),.d (.int .i64 0)]⟩) ?_ ?_
  ·simp (maxSteps:=2000000) only[↓al,ak,↓reduceIte,reduceCtorEq,Nat.reduceEqDiff,Nat.reduceLeDiff,Nat.reduceSub,Nat.reduceAdd,Int.reduceToNat,Nat.reducePow,Int.reducePow,Int.reduceLE,Int.reduceLT,IntKind.bits,h1,h2,aR,aE,aS,cn]
   ((repeat' apply And.intro)<;>first|assumption|with_reducible rfl|omega|(simp only[aO];omega)|exact⟨_,rfl⟩|exact⟨_,_,_,rfl⟩|exact⟨_,_,_,_,_,_,rfl⟩)
  rintro s ⟨h1,h2,aR,aE,aS⟩
  refine b3 (fun s=>s.ag 5= .d (.ints .i64 (ao M))∧s.ag 1= .d (.int .i64 n)∧s.ag 2= .box 2 0∧s.az 2=some ⟨false,false,.cells [.d (.bool x.neg),.d (.ints .i64 (ao x.m)),.d (.int .i64 x.e)]⟩∧s.ag 4= .box 4 0∧s.az 4=some ⟨false,false,.cells [.d (.bool false),.d (.ints .i64 []),.d (.int .i64 0)]⟩) ?_ ?_
  ·simp (maxSteps:=2000000) only[↓al,ak,↓reduceIte,reduceCtorEq,Nat.reduceEqDiff,Nat.reduceLeDiff,Nat.reduceSub,Nat.reduceAdd,Int.reduceToNat,Nat.reducePow,Int.reducePow,Int.reduceLE,Int.reduceLT,IntKind.bits,h1,h2,aR,aE,aS,MW,apR,z6,ug,Int.zero_sub]
   ((repeat' apply And.intro)<;>first|assumption|with_reducible rfl|omega|(simp only[aO];omega)|exact⟨_,rfl⟩|exact⟨_,_,_,rfl⟩|exact⟨_,_,_,_,_,_,rfl⟩)
  rintro s ⟨aF,h1,h2,aR,aE,aS⟩
  cases aQ:x.neg with
  |false=>
   rw[aQ]at aR
   have yi:e1.pre [.bool false,.ints .i64 (ao M),.int .i64 (-n)]:=⟨_,M,_,rfl,by omega,by omega,by omega⟩
   have yj:e1.res [.bool false,.ints .i64 (ao M),.int .i64 (-n)]=aI (mk false M (-n)):=by simp only[e1,b5]
   simp (maxSteps:=2000000) only[↓al,ak,↓reduceIte,reduceCtorEq,Nat.reduceEqDiff,Nat.reduceLeDiff,Nat.reduceSub,Nat.reduceAdd,Int.reduceToNat,Nat.reducePow,Int.reducePow,Int.reduceLE,Int.reduceLT,IntKind.bits,aF,h1,h2,aR,aE,aS,NN,yi,yj,aI,Int.zero_sub,Nat.add_zero,Bool.false_eq_true]
   ((repeat' apply And.intro)<;>first|assumption|with_reducible rfl|omega|(simp only[aO];omega)|exact⟨_,rfl⟩|exact⟨_,_,_,rfl⟩|exact⟨_,_,_,_,_,_,rfl⟩)
  |true=>
   rw[aQ]at aR
   have p1:iN.pre [.int .i64 1]:=⟨1,rfl,by simp only[aO];omega⟩
   have bX:iN.res [.int .i64 1]= .ints .i64 [1]:=by simp only[iN,aZ,Int.reduceToNat,c7]
   have v1:val [1]=1:=by rw[←c7];exact b5 1
   have cU:jo.pre [.ints .i64 (ao M),.ints .i64 [1]]:=⟨_,_,rfl,c5 _,c7▸c5 1,by omega,by decide⟩
   have ch:jo.res [.ints .i64 (ao M),.ints .i64 [1]]= .ints .i64 (ao (M+1)):=by simp only[jo,b5,v1,aZ]
   have yi:e1.pre [.bool true,.ints .i64 (ao (M+1)),.int .i64 (-n)]:=⟨_,M+1,_,rfl,by omega,by omega,by omega⟩
   have yj:e1.res [.bool true,.ints .i64 (ao (M+1)),.int .i64 (-n)]=aI (mk true (M+1) (-n)):=by simp only[e1,b5]
   simp (maxSteps:=2000000) only[↓al,ak,↓reduceIte,reduceCtorEq,Nat.reduceEqDiff,Nat.reduceLeDiff,Nat.reduceSub,Nat.reduceAdd,Int.reduceToNat,Nat.reducePow,Int.reducePow,Int.reduceLE,Int.reduceLT,IntKind.bits,aF,h1,h2,aR,aE,aS,NN,VP,apS,p1,bX,cU,ch,yi,yj,aI,Int.zero_sub]
   ((repeat' apply And.intro)<;>first|assumption|with_reducible rfl|omega|(simp only[aO];omega)|exact⟨_,rfl⟩|exact⟨_,_,_,rfl⟩|exact⟨_,_,_,_,_,_,rfl⟩)
end RV.Dr
namespace RV
open Go
section
variable {Γ:Env} {σ:St} {K:St→Prop}
theorem XC:∀(a b:List (bW×List Nat)) (σ:St),c2 Γ (c2 Γ K b) a σ→c2 Γ K (a++b) σ
 |[],_,_,h=>h
 |o::r,b,σ,h=>by
  simp only[c2,List.cons_append]at*
  have key:c2 Γ (c2 Γ K b) r=fun s=>c2 Γ (c2 Γ K b) r s:=rfl
  have hm:∀s,c2 Γ (c2 Γ K b) r s→c2 Γ K (r++b) s:=fun s aG=>XC r b s aG
  have:=AJ (Γ:=Γ) hm (os:=[o]) (σ:=σ) (by simpa only[c2]using h)
  simpa only[c2]using this
theorem hs (n:Nat) (R:St→Prop) {ops:List (bW×List Nat)} (h:c2 Γ R (ops.take n) σ) (aw:∀s,R s→c2 Γ K (ops.drop n) s):c2 Γ K ops σ:=by
 have:=XC (Γ:=Γ) (K:=K) (ops.take n) (ops.drop n) σ (AJ aw h)
 rwa [List.take_append_drop]at this
theorem XD:∀(a b:List bW) (σ:St),eQ Γ (eQ Γ K b) a σ→eQ Γ K (a++b) σ
 |[],_,_,h=>h
 |o::r,b,σ,h=>by
  simp only[eQ,List.cons_append]at*
  have hm:∀s,eQ Γ (eQ Γ K b) r s→eQ Γ K (r++b) s:=fun s aG=>XD r b s aG
  have:=AH (Γ:=Γ) hm (os:=[o]) (σ:=σ) (by simpa only[eQ]using h)
  simpa only[eQ]using this
theorem CU (n:Nat) (R:St→Prop) {ops:List bW} (h:eQ Γ R (ops.take n) σ) (aw:∀s,R s→eQ Γ K (ops.drop n) s):eQ Γ K ops σ:=by
 have:=XD (Γ:=Γ) (K:=K) (ops.take n) (ops.drop n) σ (AH aw h)
 rwa [List.take_append_drop]at this
theorem wx:∀{ops:List (bW×List Nat)} {σ:St},(ops.all fun o=> !o.1.op.makes)=true→k8 σ ops=σ
 |[],_,_=>rfl
 |o::r,σ,h=>by
  simp only[List.all_cons,Bool.and_eq_true,Bool.not_eq_true']at h
  simp only[k8,h.1]
  exact wx h.2
end
end RV
namespace RV.Dr
open Go RV
set_option linter.unusedSimpArgs false
set_option linter.unusedVariables false
set_option maxRecDepth 100000
set_option maxHeartbeats 4000000
def jT (b:Bool) (xs:List Int) (e:Int):Bool:=decide (xs.length≤8) && (iw b xs e && (decide (e≤200) && decide (-200≤e)))
def y2:List D→Bool
 |[.bool b,.ints _ xs,.int _ e]=>jT b xs e
 |_=>false
def ani (r:List D):Prop:=∃(b:Bool) (xs:List Int) (e:Int),r=[.bool b,.ints .i64 xs,.int .i64 e]
def s3:bC where
 pre:=fun ds=>∃rows:List (List D),ds=[.recs 3 rows]∧(∀r∈rows,ani r)∧rows.length≤1000
 res:=fun ds=>match ds with
  |[.recs _ rows]=> .bool (rows.all y2)
  |_=> .nilp
theorem Qr {α:Type} {p:α→Bool} {l:List α} {i:Nat} (h:i<l.length) (a1:p l[i]=false):l.all p=false:=by
 rw[List.all_eq_false]
 exact⟨l[i],List.getElem_mem h,by simp[a1]⟩
theorem agu (Γ:Env) (f55:Γ.fn 55=some hc) (z8:Γ.mt 55=none) (ds:List D) (h:s3.pre ds):bT Γ Tt Tv ds fun d=>d=s3.res ds:=by
 obtain⟨rows,rfl,SI,hlen⟩:=h
 have cu:s3.res [.recs 3 rows]= .bool (rows.all y2):=rfl
 rw[cu]
 have N8:hc.own=false:=rfl
 rw[fU]
 unfold Tt Tv
 refine bZ (fun s=>s.ag 0= .d (.recs 3 rows)) ?_ ?_
 ·simp (maxSteps:=2000000) only[↓al,ak,↓reduceIte,reduceCtorEq,Nat.reduceEqDiff,Nat.reduceLeDiff,Nat.reduceSub,Nat.reduceAdd,Int.reduceToNat,Nat.reducePow,Int.reducePow,Int.reduceLE,Int.reduceLT,IntKind.bits]
 rintro s h0
 refine bZ (fun s=>∀k (af:k<rows.length),y2 rows[k]=true) ?_ ?_
 ·simp (maxSteps:=2000000) only[↓al,ak,↓reduceIte,reduceCtorEq,Nat.reduceEqDiff,Nat.reduceLeDiff,Nat.reduceSub,Nat.reduceAdd,Int.reduceToNat,Nat.reducePow,Int.reducePow,Int.reduceLE,Int.reduceLT,IntKind.bits,h0]
  refine fp (fun s=>∃i:Nat,s.ag 0= .d (.recs 3 rows)∧s.ag 3= .d (.int .i64 i)∧i≤rows.length∧∀k (af:k<rows.length),k<i→y2 rows[k]=true)
   (fun s=>match s.ag 3 with| .d (.int _ n)=>rows.length - n.toNat|_=>0) ?_ ?_
  ·refine⟨0,?_⟩
   simp (maxSteps:=2000000) only[↓al,ak,↓reduceIte,reduceCtorEq,Nat.reduceEqDiff,Nat.reduceLeDiff,Nat.reduceSub,Nat.reduceAdd,Int.reduceToNat,Nat.reducePow,Int.reducePow,Int.reduceLE,Int.reduceLT,IntKind.bits,h0]
   exact⟨rfl,Nat.zero_le _,fun k af VS=>absurd VS (Nat.not_lt_zero _)⟩
  clear h0
  rintro s ⟨i,h0,aq,hi,af⟩
  have jM:=aq
  refine bZ (fun s=>(i:Int)<rows.length∧s.ag 0= .d (.recs 3 rows)∧s.ag 3= .d (.int .i64 i)) ?_ ?_
  ·by_cases ci:(i:Int)<rows.length
   ·simp (maxSteps:=2000000) only[↓al,ak,↓reduceIte,reduceCtorEq,Nat.reduceEqDiff,Nat.reduceLeDiff,Nat.reduceSub,Nat.reduceAdd,Int.reduceToNat,Nat.reducePow,Int.reducePow,Int.reduceLE,Int.reduceLT,IntKind.bits,h0,aq,ci]
   ·simp (maxSteps:=2000000) only[↓al,ak,↓reduceIte,reduceCtorEq,Nat.reduceEqDiff,Nat.reduceLeDiff,Nat.reduceSub,Nat.reduceAdd,Int.reduceToNat,Nat.reducePow,Int.reducePow,Int.reduceLE,Int.reduceLT,IntKind.bits,h0,aq,ci]
    exact fun k cn=>af k cn (by omega)
  clear h0 aq
  rintro s ⟨ci,h0,aq⟩
  have gD:i<rows.length:=by omega
  obtain⟨b,xs,e,ar⟩:=SI rows[i] (List.getElem_mem gD)
  have bh:rows.getD i []=[.bool b,.ints .i64 xs,.int .i64 e]:=by
   rw[List.getD_eq_getElem?_getD,List.getElem?_eq_getElem gD,Option.getD_some,ar]
  have uc:y2 rows[i]=jT b xs e:=by rw[ar];rfl
  refine bZ (fun s=>jT b xs e=true∧s.ag 0= .d (.recs 3 rows)∧s.ag 3= .d (.int .i64 i)) ?_ ?_
  rotate_left
  ·clear h0 aq
   rintro s ⟨VT,h0,aq⟩
   simp (maxSteps:=2000000) only[↓al,ak,↓reduceIte,reduceCtorEq,Nat.reduceEqDiff,Nat.reduceLeDiff,Nat.reduceSub,Nat.reduceAdd,Int.reduceToNat,Nat.reducePow,Int.reducePow,Int.reduceLE,Int.reduceLT,IntKind.bits,h0,aq]
   refine⟨by simp only[aO];omega,⟨i+1,by omega,by omega,fun k cn qp=> ?_⟩,?_⟩
   ·rcases Nat.lt_or_ge k i with h|h
    ·exact af k cn h
    ·have:k=i:=by omega
     subst this
     rw[uc];exact VT
   ·rw[jM]
    show rows.length - _<rows.length - _
    omega
  rw[k3]
  refine bZ (fun s=>s.ag 40= .d (.bool (!jT b xs e))∧s.ag 0= .d (.recs 3 rows)∧s.ag 3= .d (.int .i64 i)) ?_ ?_
  ·have xd:jT b xs e=(decide (xs.length≤8) && (iw b xs e && (decide (e≤200) && decide (-200≤e)))):=rfl
   by_cases bR:(xs.length:Int)>8
   ·have aw:jT b xs e=false:=by rw[xd,decide_eq_false (by omega)];rfl
    simp (maxSteps:=2000000) only[↓al,ak,↓reduceIte,reduceCtorEq,Nat.reduceEqDiff,Nat.reduceLeDiff,Nat.reduceSub,Nat.reduceAdd,Int.reduceToNat,Nat.reducePow,Int.reducePow,Int.reduceLE,Int.reduceLT,IntKind.bits,h0,aq,ci,gD,bh,Int.toNat_natCast,bR,aw,Bool.not_false]
    try omega
   ·have N9:hc.pre [.agg [.bool b,.ints .i64 xs,.int .i64 e]]:=⟨b,xs,e,rfl,by omega⟩
    have Gc:hc.res [.agg [.bool b,.ints .i64 xs,.int .i64 e]]= .bool (iw b xs e):=rfl
    rw[decide_eq_true (show xs.length≤8 by omega),Bool.true_and]at xd
    cases cN:iw b xs e with
    |false=>
     rw[cN]at Gc xd
     have aw:jT b xs e=false:=by rw[xd];rfl
     simp (maxSteps:=2000000) only[↓al,ak,↓reduceIte,reduceCtorEq,Nat.reduceEqDiff,Nat.reduceLeDiff,Nat.reduceSub,Nat.reduceAdd,Int.reduceToNat,Nat.reducePow,Int.reducePow,Int.reduceLE,Int.reduceLT,IntKind.bits,h0,aq,ci,gD,bh,Int.toNat_natCast,bR,aw,Bool.not_false,f55,z8,N8,N9,Gc]
     try omega
    |true=>
     rw[cN]at Gc xd
     rw[Bool.true_and]at xd
     by_cases fL:e>200
     ·have aw:jT b xs e=false:=by rw[xd,decide_eq_false (by omega)];rfl
      simp (maxSteps:=2000000) only[↓al,ak,↓reduceIte,reduceCtorEq,Nat.reduceEqDiff,Nat.reduceLeDiff,Nat.reduceSub,Nat.reduceAdd,Int.reduceToNat,Nat.reducePow,Int.reducePow,Int.reduceLE,Int.reduceLT,IntKind.bits,h0,aq,ci,gD,bh,Int.toNat_natCast,bR,aw,Bool.not_false,Bool.not_true,f55,z8,N8,N9,Gc,fL]
      try omega
     ·rw[decide_eq_true (show e≤200 by omega),Bool.true_and]at xd
      by_cases Gd:e< -200
      ·have aw:jT b xs e=false:=by rw[xd,decide_eq_false (by omega)]
       simp (maxSteps:=2000000) only[↓al,ak,↓reduceIte,reduceCtorEq,Nat.reduceEqDiff,Nat.reduceLeDiff,Nat.reduceSub,Nat.reduceAdd,Int.reduceToNat,Nat.reducePow,Int.reducePow,Int.reduceLE,Int.reduceLT,IntKind.bits,h0,aq,ci,gD,bh,Int.toNat_natCast,bR,aw,Bool.not_false,Bool.not_true,f55,z8,N8,N9,Gc,fL,Gd]
       try omega
      ·have aw:jT b xs e=true:=by rw[xd,decide_eq_true (by omega)]
       simp (maxSteps:=2000000) only[↓al,ak,↓reduceIte,reduceCtorEq,Nat.reduceEqDiff,Nat.reduceLeDiff,Nat.reduceSub,Nat.reduceAdd,Int.reduceToNat,Nat.reducePow,Int.reducePow,Int.reduceLE,Int.reduceLT,IntKind.bits,h0,aq,ci,gD,bh,Int.toNat_natCast,bR,aw,Bool.not_false,Bool.not_true,f55,z8,N8,N9,Gc,fL,Gd]
       try omega
  clear h0 aq
  rintro s ⟨zZ,h0,aq⟩
  cases aw:jT b xs e with
  |true=>
   rw[aw]at zZ
   rw[Bool.not_true]at zZ
   simp (maxSteps:=2000000) only[↓al,ak,↓reduceIte,reduceCtorEq,Nat.reduceEqDiff,Nat.reduceLeDiff,Nat.reduceSub,Nat.reduceAdd,Int.reduceToNat,Nat.reducePow,Int.reducePow,Int.reduceLE,Int.reduceLT,IntKind.bits,zZ,h0,aq]
  |false=>
   rw[aw]at zZ
   rw[Bool.not_false]at zZ
   have gY:=Qr gD (uc.trans aw)
   simp (maxSteps:=2000000) only[↓al,ak,↓reduceIte,reduceCtorEq,Nat.reduceEqDiff,Nat.reduceLeDiff,Nat.reduceSub,Nat.reduceAdd,Int.reduceToNat,Nat.reducePow,Int.reducePow,Int.reduceLE,Int.reduceLT,IntKind.bits,zZ,h0,aq,gY]
 ·intro s af
  have gY:rows.all y2=true:=by
   rw[List.all_eq_true]
   intro r ar
   obtain⟨k,cn,rfl⟩:=List.mem_iff_getElem.1 ar
   exact af k cn
  simp (maxSteps:=2000000) only[↓al,ak,↓reduceIte,reduceCtorEq,Nat.reduceEqDiff,Nat.reduceLeDiff,Nat.reduceSub,Nat.reduceAdd,Int.reduceToNat,Nat.reducePow,Int.reducePow,Int.reduceLE,Int.reduceLT,IntKind.bits,gY]
theorem ako {b:Bool} {xs:List Int} {e:Int} (h:jT b xs e=true):xs=ao (val xs)∧(⟨b,val xs,e⟩:a6).win (-200) 400:=by
 unfold jT at h
 simp only[Bool.and_eq_true,decide_eq_true_eq]at h
 obtain⟨h1,h2,aq,aE⟩:=h
 obtain⟨dw,eK⟩:=PX h2
 refine⟨dw.symm,eK.1,fun h0=>⟨aE,?_⟩⟩
 have aw:=Ay (val xs)
 rw[dw]at aw
 show e+(bp (val xs):Int)≤400
 omega
theorem ZR {b:Bool} {xs:List Int} {e:Int} (h:jT b xs e=true):∃x:a6,b=x.neg∧xs=ao x.m∧e=x.e∧x.win (-200) 400:=by
 obtain⟨h1,h2⟩:=ako h
 exact⟨⟨b,val xs,e⟩,rfl,h1,rfl,h2⟩
def fN (E:Int) (d:a6):Prop:=d.m≠0→E≤d.e
theorem fN.of {lo hi E:Int} {d:a6} (h:d.win lo hi) (l:E≤lo):fN E d:=win.lo h l
theorem fN.mul {E F:Int} {a b:a6} (a9:fN E a) (aw:fN F b):fN (E+F) (cD a b):=by
 unfold cD
 intro h
 have h0:=PT h
 have c7:=a9 fun e=>h0 (by rw[e,Nat.zero_mul])
 have g3:=aw fun e=>h0 (by rw[e,Nat.mul_zero])
 exact p8 (lo:=E+F) (by omega) h
theorem PD (lt:a6→a6→Bool):∀(l:List a6) (m:a6),er lt m l∈m::l
 |[],m=>by simp[er]
 |y::aB,m=>by
  have h:=PD lt aB (if lt y m=true then y else m)
  simp only[er,List.mem_cons]at h⊢
  split at h<;>rcases h with h|h<;>simp_all
theorem GR (x y:bP):(cP x y).lo∈j8 x y∧(cP x y).hi∈j8 x y:=⟨PD ..,PD ..⟩
theorem XY {lo hi lo' hi':Int} {a b c d:a6} (a9:a.win lo hi) (aw:b.win lo hi) (au:c.win lo' hi') (aL:d.win lo' hi'):∀z∈j8 ⟨a,b⟩ ⟨c,d⟩,z.win (lo+lo') (hi+hi'):=by
 intro z br
 simp only[j8,List.mem_cons,List.not_mem_nil,or_false]at br
 rcases br with rfl|rfl|rfl|rfl
 ·exact AR a9 au
 ·exact AR a9 aL
 ·exact AR aw au
 ·exact AR aw aL
theorem r6 {lo hi lo' hi':Int} {a b c d:a6} (a9:a.win lo hi) (aw:b.win lo hi) (au:c.win lo' hi') (aL:d.win lo' hi'):(cP ⟨a,b⟩ ⟨c,d⟩).lo.win (lo+lo') (hi+hi')∧(cP ⟨a,b⟩ ⟨c,d⟩).hi.win (lo+lo') (hi+hi'):=
 ⟨XY a9 aw au aL _ (GR _ _).1,XY a9 aw au aL _ (GR _ _).2⟩
theorem fN.add {E:Int} {a b:a6} (a9:fN E a) (aw:fN E b):fN E (dZ a b):=PU a9 aw
theorem fN.flip {E:Int} {a:a6} (a9:fN E a):fN E (dx a):=a9
theorem fN.shift {E:Int} {a:a6} (a9:fN E a) (k:Int):fN (E+k) (gU a k):=by
 unfold gU
 intro h
 have h0:=a9 (PT h)
 exact p8 (lo:=E+k) (by omega) h
theorem yS {lo hi:Int} {x:a6} (h:x.win lo hi) {n:Int} (aJ:lo≤-n) (dW:0≤hi) (aQ:0≤n):(g7 x n).win lo (hi+1):=by
 unfold g7
 split
 ·exact win.up h (Int.le_refl _) (by omega)
 ·rename_i af
  refine sg fun hm=>⟨aJ,?_⟩
  have aG:=KX x.m (-x.e - n).toNat
  have a9:=AE (x.m / 2^(-x.e - n).toNat) (if x.neg=true then 1 else 0)
  have h1:bp (if x.neg=true then 1 else 0)≤1:=by split<;>decide
  by_cases aw:bp x.m≤(-x.e - n).toNat
  ·rw[Nat.div_eq_of_lt (jP.1 aw),Nat.zero_add]
   omega
  ·have h0:x.m≠0:=fun h=>aw (by rw[h,eE];omega)
   have hw:=h.2 h0
   omega
def fg (i:bP) (n:Int):bP:=⟨g7 i.lo n,dx (g7 (dx i.hi) n)⟩
def hd (i:bP) (n:Int):Bool:=decide (ej (gU (qb (fg i n)) n) d1≤0)
def Oa (x:a6):Prop:=x.win (-25000) 25000
def qj:bC where
 pre:=fun ds=>ds=[]
 res:=fun ds=>aA ⟨d1,d1⟩
theorem Er (Γ:Env) (SJ:Γ.has 133 qi) (apU:Γ.has 18 sW) (ds:List D) (h:qj.pre ds):bT Γ Sw Sx ds fun d=>d=qj.res ds:=by
 cases h
 have p1:qi.pre [.int .i64 1]:=rfl
 have bX:qi.res [.int .i64 1]= .agg [.bool d1.neg,.ints .i64 (ao d1.m),.int .i64 d1.e]:=rfl
 have cU:sW.pre [.agg [.bool d1.neg,.ints .i64 (ao d1.m),.int .i64 d1.e]]:=⟨d1,rfl,agt⟩
 have ch:sW.res [.agg [.bool d1.neg,.ints .i64 (ao d1.m),.int .i64 d1.e]]=aA ⟨d1,d1⟩:=by
  have:eA (.agg [.bool d1.neg,.ints .i64 (ao d1.m),.int .i64 d1.e])=d1:=cd _
  simp only[sW,this,xT]
 simp (maxSteps:=2000000) only[↓al,ak,↓reduceIte,reduceCtorEq,Nat.reduceEqDiff,Nat.reduceLeDiff,Nat.reduceSub,Nat.reduceAdd,Int.reduceToNat,Nat.reducePow,Int.reducePow,Int.reduceLE,Int.reduceLT,IntKind.bits,Sw,Sx,SJ,apU,p1,bX,cU,ch,qj,aA]
def sG:bC where
 pre:=fun ds=>∃(x:bP) (n:Int),ds=[aA x,.int .i64 n]∧Oa x.lo∧Oa x.hi∧0≤n∧n≤1000
 res:=fun ds=>match ds with
  |[p,.int _ n]=> .fh [aA (fg (fe p) n),.bool (hd (fe p) n)]
  |_=> .nilp
theorem Es (Γ:Env) (Cj:Γ.has 44 hF) (apV:Γ.has 67 lA) (apW:Γ.has 25 vK) (VQ:Γ.has 64 hb) (SJ:Γ.has 133 qi) (apX:Γ.has 57 jI) (ds:List D) (h:sG.pre ds):bT Γ Rx Ry ds fun d=>d=sG.res ds:=by
 obtain⟨x,n,rfl,eu,e5,dS,jm⟩:=h
 have b8:bO x.lo:=win.up eu (by omega) (by omega)
 have cL:bO x.hi:=win.up e5 (by omega) (by omega)
 have f1:=yS eu (n:=n) (by omega) (by omega) dS
 have f2:=yS (iJ e5) (n:=n) (by omega) (by omega) dS
 have f3:=iJ f2
 have g:=qL f3 (iJ f1)
 have sh:=OW g n
 have one:qi.pre [.int .i64 1]:=rfl
 simp (maxSteps:=2000000) only[↓al,ak,↓reduceIte,reduceCtorEq,Nat.reduceEqDiff,Nat.reduceLeDiff,Nat.reduceSub,Nat.reduceAdd,Int.reduceToNat,Nat.reducePow,Int.reducePow,Int.reduceLE,Int.reduceLT,IntKind.bits,Rx,Ry,sG,aA,dq,Cj,hF,apV,lA,apW,vK,VQ,hb,SJ,qi,apX,jI,cd,aI,fg,hd]
 exact⟨by decide,by decide,⟨_,_,rfl,b8,dS,jm⟩,by decide,by decide,⟨_,rfl,cL⟩,⟨dx x.hi,_,rfl,Lc cL,dS,jm⟩,⟨g7 (dx x.hi) n,rfl,win.up f2 (by omega) (by omega)⟩,
  ⟨⟨g7 x.lo n,dx (g7 (dx x.hi) n)⟩,rfl,win.up f1 (by omega) (by omega),win.up f3 (by omega) (by omega)⟩,⟨qb ⟨g7 x.lo n,dx (g7 (dx x.hi) n)⟩,_,rfl,win.up g (by omega) (by omega),by omega,by omega⟩,
  ⟨gU (qb ⟨g7 x.lo n,dx (g7 (dx x.hi) n)⟩) n,d1,rfl,win.up sh (by omega) (by omega),agt⟩,by decide⟩
structure dI where
 c:bP
 s:bP
def dX (p:dI):D:= .agg [.bool p.c.lo.neg,aZ p.c.lo.m,.int .i64 p.c.lo.e,.bool p.c.hi.neg,aZ p.c.hi.m,.int .i64 p.c.hi.e,.bool p.s.lo.neg,aZ p.s.lo.m,.int .i64 p.s.lo.e,.bool p.s.hi.neg,aZ p.s.hi.m,.int .i64 p.s.hi.e]
def uC:D→dI
 | .agg [.bool a,.ints _ b,.int _ c,.bool d,.ints _ e,.int _ f,.bool g,.ints _ h,.int _ i,.bool j,.ints _ k,.int _ l]=>⟨⟨⟨a,val b,c⟩,⟨d,val e,f⟩⟩,⟨⟨g,val h,i⟩,⟨j,val k,l⟩⟩⟩
 |_=>⟨⟨⟨false,0,0⟩,⟨false,0,0⟩⟩,⟨⟨false,0,0⟩,⟨false,0,0⟩⟩⟩
theorem Dj (p:dI):uC (dX p)=p:=by unfold dX uC aZ;simp only[b5]
def tC (p q:dI) (w:Int):dI:=⟨qh (dJ (cP p.c q.c) (dd (cP p.s q.s))) w,qh (dJ (cP p.s q.c) (cP p.c q.s)) w⟩
def bP.win (lo hi:Int) (x:bP):Prop:=x.lo.win lo hi∧x.hi.win lo hi
def dI.win (lo hi:Int) (p:dI):Prop:=p.c.win lo hi∧p.s.win lo hi
theorem tx {lo hi lo' hi':Int} {x y:bP} (aj:x.win lo hi) (hy:y.win lo' hi'):(cP x y).win (lo+lo') (hi+hi'):=r6 aj.1 aj.2 hy.1 hy.2
theorem tz {lo hi:Int} {x y:bP} (aj:x.win lo hi) (hy:y.win lo hi):(dJ x y).win lo (hi+1):=⟨qL aj.1 hy.1,qL aj.2 hy.2⟩
theorem r8 {lo hi:Int} {x:bP} (aj:x.win lo hi):(dd x).win lo hi:=⟨iJ aj.2,iJ aj.1⟩
theorem ack {lo hi:Int} {x:bP} (aj:x.win lo hi) {n:Int} (aQ:0≤n):(qh x n).win lo (hi+1):=⟨Pz aj.1 n aQ _,Pz aj.2 n aQ _⟩
theorem gv {lo hi lo' hi':Int} {x:bP} (h:x.win lo hi) (l:lo'≤lo) (k:hi≤hi'):x.win lo' hi':=⟨win.up h.1 l k,win.up h.2 l k⟩
theorem PZ {lo hi lo' hi':Int} {p q:dI} (a1:p.win lo hi) (a7:q.win lo' hi') {w:Int} (hw:0≤w):(tC p q w).win (lo+lo') (hi+hi'+2):=
 ⟨gv (ack (tz (tx a1.1 a7.1) (r8 (tx a1.2 a7.2))) hw) (by omega) (by omega),gv (ack (tz (tx a1.2 a7.1) (tx a1.1 a7.2)) hw) (by omega) (by omega)⟩
def q9:bC where
 pre:=fun ds=>∃(p q:dI) (w:Int),ds=[dX p,dX q,.int .i64 w]∧p.win (-24000) 24000∧q.win (-24000) 24000∧0≤w∧w≤1000
 res:=fun ds=>match ds with
  |[p,q,.int _ w]=>dX (tC (uC p) (uC q) w)
  |_=> .nilp
theorem Et (Γ:Env) (apY:Γ.has 33 uq) (FM:Γ.has 27 jr) (VU:Γ.has 31 kM) (apZ:Γ.has 35 vP) (ds:List D) (h:q9.pre ds):bT Γ SA SB ds fun d=>d=q9.res ds:=by
 obtain⟨p,q,w,rfl,a1,a7,fr,gg⟩:=h
 have cu:q9.res [dX p,dX q,.int .i64 w]=dX (tC p q w):=by simp only[q9,Dj]
 rw[cu]
 have hh:=tx a1.1 a7.1
 have iX:=tx a1.2 a7.2
 have we:=tx a1.2 a7.1
 have xx:=tx a1.1 a7.2
 have f2:=r8 iX
 have b1:=tz hh f2
 have ep:=tz we xx
 simp (maxSteps:=2000000) only[↓al,ak,↓reduceIte,reduceCtorEq,Nat.reduceEqDiff,Nat.reduceLeDiff,Nat.reduceSub,Nat.reduceAdd,Int.reduceToNat,Nat.reducePow,Int.reducePow,Int.reduceLE,Int.reduceLT,IntKind.bits,SA,SB,dX,aA,dq,tC,apY,uq,FM,jr,VU,kM,apZ,vP]
 have u:∀{lo hi:Int} {x:bP},x.win lo hi→-25000≤lo→hi≤25000→F8 x:=fun h l k=>gv h l k
 have v:∀{lo hi:Int} {x:bP},x.win lo hi→-50000≤lo→hi≤50000→hj x:=fun h l k=>gv h l k
 exact⟨⟨p.c,q.c,rfl,u a1.1 (by omega) (by omega),u a7.1 (by omega) (by omega)⟩,⟨p.s,q.s,rfl,u a1.2 (by omega) (by omega),u a7.2 (by omega) (by omega)⟩,
  ⟨cP p.s q.s,rfl,v iX (by omega) (by omega)⟩,⟨cP p.c q.c,dd (cP p.s q.s),rfl,v hh (by omega) (by omega),v f2 (by omega) (by omega)⟩,
  ⟨dJ (cP p.c q.c) (dd (cP p.s q.s)),w,rfl,v b1 (by omega) (by omega),fr,by omega⟩,
  ⟨p.s,q.c,rfl,u a1.2 (by omega) (by omega),u a7.1 (by omega) (by omega)⟩,⟨p.c,q.s,rfl,u a1.1 (by omega) (by omega),u a7.2 (by omega) (by omega)⟩,
  ⟨cP p.s q.c,cP p.c q.s,rfl,v we (by omega) (by omega),v xx (by omega) (by omega)⟩,
  ⟨dJ (cP p.s q.c) (cP p.c q.s),w,rfl,v ep (by omega) (by omega),fr,by omega⟩⟩
def gI (x:bP) (w:Int):bP:=if ia (gU x.lo (-1))<0 then ⟨⟨false,0,0⟩,⟨false,0,0⟩⟩else tB (gV x (-1)) w
theorem PE {lo hi:Int} {x:bP} (aj:x.win lo hi) (k:Int):(gV x k).win (lo+k) (hi+k):=⟨OW aj.1 k,OW aj.2 k⟩
def ra:bC where
 pre:=fun ds=>∃(x:bP) (w:Int),ds=[aA x,.ptr [.int .i64 w]]∧x.win (-40000) 40000∧0≤w∧w≤1000
 res:=fun ds=>match ds with
  |[p,.ptr [.int _ w]]=>aA (gI (fe p) w)
  |_=> .nilp
theorem Eu (Γ:Env) (agv:Γ.has 29 sY) (agw:Γ.has 15 rB) (ds:List D) (h:ra.pre ds):bT Γ Mf Mg ds fun d=>d=ra.res ds:=by
 obtain⟨x,w,rfl,aj,fr,gg⟩:=h
 have cu:ra.res [aA x,.ptr [.int .i64 w]]=aA (gI x w):=by simp only[ra,aA,aZ,dq]
 rw[cu]
 have arC:=PE aj (-1)
 have p1:sY.pre [aA x,.int .i64 (-1)]:=⟨x,-1,rfl,gv aj (by omega) (by omega),by omega,by omega⟩
 have bX:sY.res [aA x,.int .i64 (-1)]=aA (gV x (-1)):=by simp only[sY,aA,aZ,dq]
 have cU:rB.pre [aA (gV x (-1)),.int .i64 w]:=⟨gV x (-1),w,rfl,gv arC (by omega) (by omega),fr,gg⟩
 have ch:rB.res [aA (gV x (-1)),.int .i64 w]=sm (gV x (-1)) w:=by simp only[rB,aA,aZ,dq]
 have a4:(gV x (-1)).lo=gU x.lo (-1):=rfl
 have ta:ao 0=[]:=by decide+kernel
 unfold gI sm at*
 rw[a4]at ch
 by_cases aG:ia (gU x.lo (-1))<0
 ·rw[if_pos aG]at ch⊢
  obtain⟨y,hy⟩:∃y,y=gV x (-1):=⟨_,rfl⟩
  rw[←hy]at cU bX ch
  unfold aA aZ at p1 bX cU ch
  simp (maxSteps:=2000000) only[↓al,ak,↓reduceIte,reduceCtorEq,Nat.reduceEqDiff,Nat.reduceLeDiff,Nat.reduceSub,Nat.reduceAdd,Int.reduceToNat,Nat.reducePow,Int.reducePow,Int.reduceLE,Int.reduceLT,IntKind.bits,Mf,Mg,aA,agv,p1,bX,agw,cU,ch,ta]
  exact⟨by decide,by decide⟩
 ·rw[if_neg aG]at ch⊢
  obtain⟨y,hy⟩:∃y,y=gV x (-1):=⟨_,rfl⟩
  obtain⟨z,br⟩:∃z,z=tB y w:=⟨_,rfl⟩
  rw[←hy]at cU bX ch⊢
  rw[←br]at ch⊢
  unfold aA aZ at p1 bX cU ch
  simp (maxSteps:=2000000) only[↓al,ak,↓reduceIte,reduceCtorEq,Nat.reduceEqDiff,Nat.reduceLeDiff,Nat.reduceSub,Nat.reduceAdd,Int.reduceToNat,Nat.reducePow,Int.reducePow,Int.reduceLE,Int.reduceLT,IntKind.bits,Mf,Mg,aA,agv,p1,bX,agw,cU,ch,ta]
  exact⟨by decide,by decide⟩
def pN:bC where
 pre:=fun ds=>∃(x:a6) (n:Int),ds=[aI x,.int .i64 n]∧bO x∧0≤n∧n≤1000
 res:=fun ds=>match ds with
  |[p,.int _ n]=>aI (g7 (eA p) n)
  |_=> .nilp
theorem ap0 (Γ:Env) (NI:Γ.has 88 jn) (xb:Γ.has 89 hY) (vQ:Γ.has 76 dT) (ds:List D) (h:pN.pre ds):bT Γ Uf Ug ds fun d=>d=pN.res ds:=by
 obtain⟨x,n,rfl,aj,dS,jm⟩:=h
 have ex:=kK aj
 have da:=hn aj
 have az:=jc aj
 have dC:=fo x.m
 have cu:pN.res [aI x,.int .i64 n]=aI (g7 x n):=by simp only[pN,aI,aZ,cd]
 rw[cu]
 unfold g7
 obtain⟨k,ek⟩:∃k:Int,k= -x.e - n:=⟨_,rfl⟩
 have MW: -x.e - n=k:=ek.symm
 rw[fU]
 unfold Uf Ug
 refine b3 (fun s=>s.ag 1= .d (.int .i64 n)∧s.ag 2= .box 2 0∧s.az 2=some ⟨false,false,.cells [.d (.bool x.neg),.d (.ints .i64 (ao x.m)),.d (.int .i64 x.e)]⟩∧s.ag 4= .box 4 0∧s.az 4=some ⟨false,false,.cells [.d (.bool false),.d (.ints .i64 []),.d (.int .i64 0)]⟩) ?_ ?_
 ·simp (maxSteps:=2000000) only[↓al,ak,↓reduceIte,reduceCtorEq,Nat.reduceEqDiff,Nat.reduceLeDiff,Nat.reduceSub,Nat.reduceAdd,Int.reduceToNat,Nat.reducePow,Int.reducePow,Int.reduceLE,Int.reduceLT,IntKind.bits,aI]
 rintro s ⟨h1,h2,aR,aE,aS⟩
 refine b3 (fun s=>s.ag 5= .d (.int .i64 k)∧s.ag 1= .d (.int .i64 n)∧s.ag 2= .box 2 0∧s.az 2=some ⟨false,false,.cells [.d (.bool x.neg),.d (.ints .i64 (ao x.m)),.d (.int .i64 x.e)]⟩∧s.ag 4= .box 4 0∧s.az 4=some ⟨false,false,.cells [.d (.bool false),.d (.ints .i64 []),.d (.int .i64 0)]⟩) ?_ ?_
 ·simp (maxSteps:=2000000) only[↓al,ak,↓reduceIte,reduceCtorEq,Nat.reduceEqDiff,Nat.reduceLeDiff,Nat.reduceSub,Nat.reduceAdd,Int.reduceToNat,Nat.reducePow,Int.reducePow,Int.reduceLE,Int.reduceLT,IntKind.bits,h1,h2,aR,aE,aS,Int.zero_sub,MW]
  ((repeat' apply And.intro)<;>first|assumption|with_reducible rfl|omega|(simp only[aO];omega)|exact⟨_,rfl⟩|exact⟨_,_,_,rfl⟩|exact⟨_,_,_,_,_,_,rfl⟩)
 rintro s ⟨aF,h1,h2,aR,aE,aS⟩
 by_cases af:0≤x.e+n
 ·have cn:k≤0:=by omega
  rw[if_pos af]
  simp (maxSteps:=2000000) only[↓al,ak,↓reduceIte,reduceCtorEq,Nat.reduceEqDiff,Nat.reduceLeDiff,Nat.reduceSub,Nat.reduceAdd,Int.reduceToNat,Nat.reducePow,Int.reducePow,Int.reduceLE,Int.reduceLT,IntKind.bits,aF,h1,h2,aR,aE,aS,cn,aI]
 ·have cn:¬(k≤0):=by omega
  obtain⟨M,cJ⟩:∃M,M=x.m / 2^k.toNat:=⟨_,rfl⟩
  have ug:jn.res [.ints .i64 (ao x.m),.int .i64 k]= .ints .i64 (ao M):=by simp only[jn,b5,←cJ,aZ]
  have z6:jn.pre [.ints .i64 (ao x.m),.int .i64 k]:=⟨_,_,rfl,c5 _,by omega,by omega⟩
  have WL:x.m<16777216^(ao x.m).length:=by have:=kb (c5 x.m);rwa [b5]at this
  have VR:M≤x.m:=cJ▸Nat.div_le_self _ _
  have apT:(ao (M+1)).length≤(ao x.m).length+1:=yT (by rw[Nat.pow_succ];omega)
  have JK:(ao M).length≤(ao x.m).length:=yT (Nat.lt_of_le_of_lt VR WL)
  rw[if_neg af,←ek,←cJ]
  refine b3 (fun s=>s.ag 5= .d (.int .i64 k)∧s.ag 1= .d (.int .i64 n)∧s.ag 2= .box 2 0∧s.az 2=some ⟨false,false,.cells [.d (.bool x.neg),.d (.ints .i64 (ao x.m)),.d (.int .i64 x.e)]⟩∧s.ag 4= .box 4 0∧s.az 4=some ⟨false,false,.cells [.d (.bool false),.d (.ints .i64 []),.d (.int .i64 0)]⟩) ?_ ?_
  ·simp (maxSteps:=2000000) only[↓al,ak,↓reduceIte,reduceCtorEq,Nat.reduceEqDiff,Nat.reduceLeDiff,Nat.reduceSub,Nat.reduceAdd,Int.reduceToNat,Nat.reducePow,Int.reducePow,Int.reduceLE,Int.reduceLT,IntKind.bits,aF,h1,h2,aR,aE,aS,cn]
  rintro s ⟨aF,h1,h2,aR,aE,aS⟩
  refine b3 (fun s=>s.ag 6= .d (.ints .i64 (ao M))∧s.ag 1= .d (.int .i64 n)∧s.ag 2= .box 2 0∧s.az 2=some ⟨false,false,.cells [.d (.bool x.neg),.d (.ints .i64 (ao x.m)),.d (.int .i64 x.e)]⟩∧s.ag 4= .box 4 0∧s.az 4=some ⟨false,false,.cells [.d (.bool false),.d (.ints .i64 []),.d (.int .i64 0)]⟩) ?_ ?_
  ·simp (maxSteps:=2000000) only[↓al,ak,↓reduceIte,reduceCtorEq,Nat.reduceEqDiff,Nat.reduceLeDiff,Nat.reduceSub,Nat.reduceAdd,Int.reduceToNat,Nat.reducePow,Int.reducePow,Int.reduceLE,Int.reduceLT,IntKind.bits,aF,h1,h2,aR,aE,aS,NI,z6,ug]
  rintro s ⟨aN,h1,h2,aR,aE,aS⟩
  cases aQ:x.neg with
  |false=>
   rw[aQ]at aR
   have yi:dT.pre [.bool false,.ints .i64 (ao M),.int .i64 (-n)]:=⟨_,M,_,rfl,by omega,by omega,by omega⟩
   have yj:dT.res [.bool false,.ints .i64 (ao M),.int .i64 (-n)]=aI (mk false M (-n)):=by simp only[dT,b5]
   simp (maxSteps:=2000000) only[↓al,ak,↓reduceIte,reduceCtorEq,Nat.reduceEqDiff,Nat.reduceLeDiff,Nat.reduceSub,Nat.reduceAdd,Int.reduceToNat,Nat.reducePow,Int.reducePow,Int.reduceLE,Int.reduceLT,IntKind.bits,aN,h1,h2,aR,aE,aS,vQ,yi,yj,aI,Int.zero_sub,Nat.add_zero,Bool.false_eq_true]
   ((repeat' apply And.intro)<;>first|assumption|with_reducible rfl|omega|(simp only[aO];omega)|exact⟨_,rfl⟩|exact⟨_,_,_,rfl⟩|exact⟨_,_,_,_,_,_,rfl⟩)
  |true=>
   rw[aQ]at aR
   have v1:val [1]=1:=by rw[←c7];exact b5 1
   have cU:hY.pre [.ints .i64 (ao M),.ints .i64 [1]]:=⟨_,_,rfl,c5 _,c7▸c5 1,by omega,by decide⟩
   have ch:hY.res [.ints .i64 (ao M),.ints .i64 [1]]= .ints .i64 (ao (M+1)):=by simp only[hY,b5,v1,aZ]
   have yi:dT.pre [.bool true,.ints .i64 (ao (M+1)),.int .i64 (-n)]:=⟨_,M+1,_,rfl,by omega,by omega,by omega⟩
   have yj:dT.res [.bool true,.ints .i64 (ao (M+1)),.int .i64 (-n)]=aI (mk true (M+1) (-n)):=by simp only[dT,b5]
   refine b3 (fun s=>s.ag 6= .d (.ints .i64 (ao (M+1)))∧s.ag 1= .d (.int .i64 n)∧s.ag 2= .box 2 0∧s.az 2=some ⟨false,false,.cells [.d (.bool true),.d (.ints .i64 (ao x.m)),.d (.int .i64 x.e)]⟩∧s.ag 4= .box 4 0∧s.az 4=some ⟨false,false,.cells [.d (.bool false),.d (.ints .i64 []),.d (.int .i64 0)]⟩) ?_ ?_
   ·simp (maxSteps:=2000000) only[↓al,ak,↓reduceIte,reduceCtorEq,Nat.reduceEqDiff,Nat.reduceLeDiff,Nat.reduceSub,Nat.reduceAdd,Int.reduceToNat,Nat.reducePow,Int.reducePow,Int.reduceLE,Int.reduceLT,IntKind.bits,aN,h1,h2,aR,aE,aS,xb,cU,ch]
   rintro s ⟨aN,h1,h2,aR,aE,aS⟩
   simp (maxSteps:=2000000) only[↓al,ak,↓reduceIte,reduceCtorEq,Nat.reduceEqDiff,Nat.reduceLeDiff,Nat.reduceSub,Nat.reduceAdd,Int.reduceToNat,Nat.reducePow,Int.reducePow,Int.reduceLE,Int.reduceLT,IntKind.bits,aN,h1,h2,aR,aE,aS,vQ,yi,yj,aI,Int.zero_sub]
   ((repeat' apply And.intro)<;>first|assumption|with_reducible rfl|omega|(simp only[aO];omega)|exact⟨_,rfl⟩|exact⟨_,_,_,rfl⟩|exact⟨_,_,_,_,_,_,rfl⟩)
def hP (e:Int):a6:=⟨false,1,e⟩
theorem VV (e:Int):mk false 1 e=hP e:=by
 have:b2 1=0:=Lr rfl
 unfold mk hP
 rw[if_neg (by decide),this,Nat.pow_zero,Nat.div_one]
 simp
theorem Ls {lo hi e:Int} (h1:lo≤e) (h2:e+1≤hi):(hP e).win lo hi:=by
 have aw:bp 1=1:=by decide+kernel
 rw[←VV];exact sg (fun _=>⟨h1,by omega⟩)
def Ck (i:bP) (n:Int):Bool:=decide (i.lo=i.hi)||decide (ej (qb (fg i n)) (hP (-n))≤0)
def xy (x:bP) (n:Int) (s:St):Prop:=s.ag 1= .d (.int .i64 n)∧s.ag 2= .box 2 0∧s.az 2=some ⟨false,false,.cells [.d (.bool x.lo.neg),.d (.ints .i64 (ao x.lo.m)),.d (.int .i64 x.lo.e),.d (.bool x.hi.neg),.d (.ints .i64 (ao x.hi.m)),.d (.int .i64 x.hi.e)]⟩∧s.ag 4= .box 4 0∧s.az 4=some ⟨false,false,.cells [.d (.bool false),.d (.ints .i64 []),.d (.int .i64 0),.d (.bool false),.d (.ints .i64 []),.d (.int .i64 0)]⟩
def td (k:Nat) (x:a6) (s:St):Prop:=s.ag k= .box k 0∧s.az k=some ⟨false,false,.cells [.d (.bool x.neg),.d (.ints .i64 (ao x.m)),.d (.int .i64 x.e)]⟩
def s4:bC where
 pre:=fun ds=>∃(x:bP) (n:Int),ds=[aA x,.int .i64 n]∧Oa x.lo∧Oa x.hi∧0≤n∧n≤1000
 res:=fun ds=>match ds with
  |[p,.int _ n]=> .fh [aA (fg (fe p) n),.bool (Ck (fe p) n)]
  |_=> .nilp
theorem ap1 (Γ:Env) (NO:Γ.has 45 pN) (Cf:Γ.has 48 gM) (Cg:Γ.has 50 g1) (ux:Γ.has 24 eS) (jJ:Γ.has 47 ef) (ds:List D) (h:s4.pre ds):bT Γ UY UZ ds fun d=>d=s4.res ds:=by
 obtain⟨x,n,rfl,eu,e5,dS,jm⟩:=h
 have cu:s4.res [aA x,.int .i64 n]= .fh [aA (fg x n),.bool (Ck x n)]:=by simp only[s4,aA,aZ,dq]
 rw[cu]
 have b8:bO x.lo:=win.up eu (by omega) (by omega)
 have cL:bO x.hi:=win.up e5 (by omega) (by omega)
 have f1:=yS eu (n:=n) (by omega) (by omega) dS
 have f2:=yS (iJ e5) (n:=n) (by omega) (by omega) dS
 have f3:=iJ f2
 have g:=qL f3 (iJ f1)
 have kV:=Ls (lo:= -50000) (hi:=50000) (e:= -n) (by omega) (by omega)
 obtain⟨lo,ln⟩:∃lo,lo=g7 x.lo n:=⟨_,rfl⟩
 obtain⟨hi,sO⟩:∃hi,hi=dx (g7 (dx x.hi) n):=⟨_,rfl⟩
 have Gb:fg x n=⟨lo,hi⟩:=by unfold fg;rw[ln,sO]
 have p1:pN.pre [aI x.lo,.int .i64 n]:=⟨x.lo,n,rfl,b8,dS,jm⟩
 have bX:pN.res [aI x.lo,.int .i64 n]=aI lo:=by simp only[pN,aI,aZ,cd,ln]
 have cU:gM.pre [aI x.hi]:=⟨x.hi,rfl⟩
 have ch:gM.res [aI x.hi]=aI (dx x.hi):=by simp only[gM,aI,aZ,cd]
 have gT:pN.pre [aI (dx x.hi),.int .i64 n]:=⟨dx x.hi,n,rfl,iJ cL,dS,jm⟩
 obtain⟨h0,VW⟩:∃h0,h0=g7 (dx x.hi) n:=⟨_,rfl⟩
 have gS:pN.res [aI (dx x.hi),.int .i64 n]=aI h0:=by simp only[pN,aI,aZ,cd,VW]
 have Aq:gM.pre [aI h0]:=⟨h0,rfl⟩
 have F3:gM.res [aI h0]=aI hi:=by simp only[gM,aI,aZ,cd,sO,VW]
 rw[←ln]at f1 g
 rw[←sO]at f3 g
 have Ob:gM.pre [aI lo]:=⟨lo,rfl⟩
 obtain⟨ec,yb⟩:∃ec,ec=dx lo:=⟨_,rfl⟩
 have F5:gM.res [aI lo]=aI ec:=by simp only[gM,aI,aZ,cd,yb]
 have f4:ec.win (-25000) (25000+1):=yb▸iJ f1
 rw[←yb]at g
 have Oc:g1.pre [aI hi,aI ec]:=⟨hi,ec,rfl,win.up f3 (by omega) (by omega),win.up f4 (by omega) (by omega)⟩
 obtain⟨tf,NP⟩:∃tf,tf=dZ hi ec:=⟨_,rfl⟩
 have F6:g1.res [aI hi,aI ec]=aI tf:=by simp only[g1,aI,aZ,cd,NP]
 rw[←NP]at g
 have hw:qb (fg x n)=tf:=by rw[Gb,NP,yb];rfl
 have JN:eS.pre [aI x.lo,aI x.hi]:=⟨x.lo,x.hi,rfl,b8,cL⟩
 have yD:eS.res [aI x.lo,aI x.hi]= .bool (decide (x.lo=x.hi)):=by simp only[eS,aI,aZ,cd]
 have JO:ef.pre [aI tf,aI (hP (-n))]:=⟨tf,hP (-n),rfl,win.up g (by omega) (by omega),kV⟩
 have Cy:ef.res [aI tf,aI (hP (-n))]= .int .i64 (ej tf (hP (-n))):=by simp only[ef,aI,aZ,cd]
 rw[Gb]
 unfold Ck
 rw[hw]
 have pV:aI (hP (-n))= .agg [.bool false,.ints .i64 [1],.int .i64 (-n)]:=by unfold aI hP aZ;rw[c7]
 rw[pV]at JO Cy
 clear ln sO Gb VW yb NP hw
 unfold aI aZ at p1 bX cU ch gT gS Aq F3 Ob F5 Oc F6 JN yD JO Cy
 rw[fU]
 unfold UY UZ
 refine b3 (fun s=>xy x n s) ?_ ?_
 ·simp (maxSteps:=2000000) only[↓al,ak,↓reduceIte,reduceCtorEq,Nat.reduceEqDiff,Nat.reduceLeDiff,Nat.reduceSub,Nat.reduceAdd,Int.reduceToNat,Nat.reducePow,Int.reducePow,Int.reduceLE,Int.reduceLT,IntKind.bits,aA,aZ,xy]
 rintro s ⟨h1,h2,aR,aE,aS⟩
 refine b3 (fun s=>xy x n s∧td 6 lo s) ?_ ?_
 ·simp (maxSteps:=2000000) only[↓al,ak,↓reduceIte,reduceCtorEq,Nat.reduceEqDiff,Nat.reduceLeDiff,Nat.reduceSub,Nat.reduceAdd,Int.reduceToNat,Nat.reducePow,Int.reducePow,Int.reduceLE,Int.reduceLT,IntKind.bits,h1,h2,aR,aE,aS,xy,td,NO,p1,bX]
 rintro s ⟨⟨h1,h2,aR,aE,aS⟩,aN,a8⟩
 refine b3 (fun s=>xy x n s∧td 6 lo s∧td 7 hi s) ?_ ?_
 ·simp (maxSteps:=2000000) only[↓al,ak,↓reduceIte,reduceCtorEq,Nat.reduceEqDiff,Nat.reduceLeDiff,Nat.reduceSub,Nat.reduceAdd,Int.reduceToNat,Nat.reducePow,Int.reducePow,Int.reduceLE,Int.reduceLT,IntKind.bits,h1,h2,aR,aE,aS,aN,a8,xy,td,NO,Cf,cU,ch,gT,gS,Aq,F3]
 rintro s ⟨⟨h1,h2,aR,aE,aS⟩,⟨aN,a8⟩,aM,bb⟩
 refine b3 (fun s=>xy x n s∧td 6 lo s∧td 7 hi s∧td 8 tf s) ?_ ?_
 ·simp (maxSteps:=2000000) only[↓al,ak,↓reduceIte,reduceCtorEq,Nat.reduceEqDiff,Nat.reduceLeDiff,Nat.reduceSub,Nat.reduceAdd,Int.reduceToNat,Nat.reducePow,Int.reducePow,Int.reduceLE,Int.reduceLT,IntKind.bits,h1,h2,aR,aE,aS,aN,a8,aM,bb,xy,td,Cf,Ob,F5,Cg,Oc,F6]
  exact⟨by decide,by decide⟩
 rintro s ⟨⟨h1,h2,aR,aE,aS⟩,⟨aN,a8⟩,⟨aM,bb⟩,aY,bk⟩
 by_cases he:x.lo=x.hi
 ·have aL:decide (x.lo=x.hi)=true:=decide_eq_true he
  rw[aL]at yD⊢
  simp (maxSteps:=60000) only[↓al,ak,↓reduceIte,reduceCtorEq,Nat.reduceEqDiff,Nat.reduceLeDiff,Nat.reduceSub,Nat.reduceAdd,Int.reduceToNat,Nat.reducePow,Int.reducePow,Int.reduceLE,Int.reduceLT,IntKind.bits,h1,h2,aR,aE,aS,aN,a8,aM,bb,aY,bk,aA,aZ,ux,JN,yD,Bool.true_or]
 ·have aL:decide (x.lo=x.hi)=false:=decide_eq_false he
  rw[aL]at yD⊢
  refine b3 (fun s=>xy x n s∧td 6 lo s∧td 7 hi s∧td 8 tf s) ?_ ?_
  ·simp (maxSteps:=60000) only[↓al,ak,↓reduceIte,reduceCtorEq,Nat.reduceEqDiff,Nat.reduceLeDiff,Nat.reduceSub,Nat.reduceAdd,Int.reduceToNat,Nat.reducePow,Int.reducePow,Int.reduceLE,Int.reduceLT,IntKind.bits,h1,h2,aR,aE,aS,aN,a8,aM,bb,aY,bk,xy,td,ux,JN,yD]
  rintro s ⟨⟨h1,h2,aR,aE,aS⟩,⟨aN,a8⟩,⟨aM,bb⟩,aY,bk⟩
  simp (maxSteps:=60000) only[↓al,ak,↓reduceIte,reduceCtorEq,Nat.reduceEqDiff,Nat.reduceLeDiff,Nat.reduceSub,Nat.reduceAdd,Int.reduceToNat,Nat.reducePow,Int.reducePow,Int.reduceLE,Int.reduceLT,IntKind.bits,h1,h2,aR,aE,aS,aN,a8,aM,bb,aY,bk,aA,aZ,jJ,JO,Cy,Int.zero_sub,Bool.false_or]
  exact⟨by simp only[aO];omega,by decide⟩
theorem AU {a b:Nat} (h:a≤b):(2:Int)^a∣2^b:=⟨2^(b - a),by rw[←Int.pow_add];congr 1;omega⟩
def ec (n:Nat) (v:Int):Int:=v / 2^(bp v.natAbs - n)*2^(bp v.natAbs - n)
def r1 (n:Nat) (s:Int):Prop:=(2:Int)^(bp s.natAbs - n)∣s
theorem tn (t:Nat):(0:Int)<2^t:=Int.pow_pos (by decide)
theorem QM (n:Nat) (v:Int):ec n v≤v:=Int.ediv_mul_le v (Int.ne_of_gt (tn _))
theorem acm {n:Nat} {v s:Int} (h:(2:Int)^(bp v.natAbs - n)∣s) (l:s≤v):s≤ec n v:=by
 obtain⟨c,rfl⟩:=h
 unfold ec
 have a1:=tn (bp v.natAbs - n)
 have:c≤v / 2^(bp v.natAbs - n):=by
  rw[Int.le_ediv_iff_mul_le a1,Int.mul_comm];exact l
 rw[Int.mul_comm]
 exact Int.mul_le_mul_of_nonneg_right this (Int.le_of_lt a1)
theorem Oj {a:Nat} (h:a≠0):2^(bp a - 1)≤a:=by
 refine Nat.le_of_not_lt fun h1=> ?_
 have:=(jP (n:=a) (k:=bp a - 1)).2 h1
 have:=xM h
 omega
theorem Qs {n:Nat} (aQ:1≤n) {v s:Int} (h:r1 n s) (l:s≤v):s≤ec n v:=by
 unfold r1 at h
 by_cases ah:bp v.natAbs - n≤bp s.natAbs - n
 ·exact acm (Int.dvd_trans (AU ah) h) l
 ·have aw:bp s.natAbs<bp v.natAbs:=by omega
  by_cases aC:v<0
  ·have:=yU (show v.natAbs≤s.natAbs by omega)
   omega
  ·have h0:v.natAbs≠0:=fun e=>by rw[e,eE]at aw;omega
   have h1:=Oj h0
   have h2:=k4 s.natAbs
   have aq:2^bp s.natAbs≤2^(bp v.natAbs - 1):=Nat.pow_le_pow_right (by decide) (by omega)
   have aE:((2^(bp v.natAbs - 1):Nat):Int)≤ec n v:=by
    refine acm ?_ (by omega)
    rw[Int.natCast_pow]
    exact AU (by omega)
   omega
theorem r1.neg {n:Nat} {s:Int} (h:r1 n s):r1 n (-s):=by
 unfold r1 at*
 rw[Int.natAbs_neg]
 exact Int.dvd_neg.2 h
def h3 (n:Nat) (up:Bool) (v:Int):Int:=if up=true then -(ec n (-v))else ec n v
theorem ajH {m k:Nat} (bu:m % 2=1) (bE:1≤k) (a:Nat):((m:Int)*2^a) / 2^(k+a)=((m / 2^k:Nat):Int)∧(-(m:Int)*2^a) / 2^(k+a)= -((m / 2^k+1:Nat):Int):=by
 have a1:(0:Int)<2^k:=tn k
 have au:((2^k:Nat):Int)=2^k:=Int.natCast_pow 2 k
 have aL:=Nat.div_add_mod m (2^k)
 have aJ:=Nat.mod_lt m (Nat.two_pow_pos k)
 have ar:m % 2^k≠0:=fun e=>by
  have:=Nat.mod_mod_of_dvd m (show 2∣2^k from ⟨2^(k - 1),by rw[←Nat.pow_succ'];congr 1;omega⟩)
  rw[e]at this
  omega
 rw[Int.pow_add,Int.mul_ediv_mul_of_pos_left _ _ (tn _),Int.mul_ediv_mul_of_pos_left _ _ (tn _)]
 refine⟨by rw[Int.natCast_ediv,au],?_⟩
 refine((Int.ediv_emod_unique a1 (r:=((2^k - m % 2^k:Nat):Int)) (q:= -((m / 2^k+1:Nat):Int))).2 ⟨?_,by omega,by omega⟩).1
 rw[←au,Int.mul_neg,←Int.natCast_mul,Nat.mul_add,Nat.mul_one]
 omega
theorem ai8 (n:Nat) (v:Int):ec n (-v)=(-v) / 2^(bp v.natAbs - n)*2^(bp v.natAbs - n):=by
 unfold ec;rw[Int.natAbs_neg]
theorem QN {n:Nat} {E:Int} {d:a6} (ok:d.ok) (l:fN E d) (up:Bool):(gy d n up).V E=h3 n up (d.V E):=by
 by_cases h0:d.m=0
 ·have:gy d n up=d:=by unfold gy;rw[if_pos (by rw[h0,eE];omega)]
  rw[this,k6 h0]
  unfold h3 ec
  cases up<;>simp
 ·have le:=l h0
  have bu:=ok.2 h0
  unfold h3
  rw[ai8]
  unfold ec
  rw[ZL,p2 h0]
  unfold gy
  by_cases af:(bp d.m:Int) - n≤0
  ·rw[if_pos af]
   have aL:(2:Int)^(bp d.m+(d.e - E).toNat - n)∣d.V E:=by
    unfold a6.V
    exact Int.dvd_trans (AU (by omega)) (Int.dvd_mul_left _ _)
   rw[Int.ediv_mul_cancel aL,Int.ediv_mul_cancel (Int.dvd_neg.2 aL),Int.neg_neg]
   split<;>rfl
  ·rw[if_neg af]
   obtain⟨k,cn⟩:∃k:Nat,(bp d.m:Int) - n=k:=⟨bp d.m - n,by omega⟩
   have bE:1≤k:=by omega
   rw[cn,wS _ _ (by omega),show (d.e+(k:Int) - E).toNat=k+(d.e - E).toNat by omega,show bp d.m+(d.e - E).toNat - n=k+(d.e - E).toNat by omega,Int.toNat_natCast]
   obtain⟨f1,f2⟩:=ajH bu bE (d.e - E).toNat
   unfold a6.V
   cases amZ:d.neg with
   |false=>
    have e:dU false d.m=(d.m:Int):=rfl
    rw[Int.neg_mul]at f2
    rw[e,f1,f2]
    cases up
    ·simp[dU]
    ·simp[dU,Int.neg_mul]
   |true=>
    have e:dU true d.m= -(d.m:Int):=rfl
    have f3: -(-(d.m:Int)*2^(d.e - E).toNat)=(d.m:Int)*2^(d.e - E).toNat:=by rw[Int.neg_mul,Int.neg_neg]
    rw[e,f3,f1,f2]
    cases up
    ·simp[dU]
    ·simp[dU,Int.neg_mul]
theorem fN.cut {E:Int} {d:a6} (l:fN E d) (n:Nat) (up:Bool):fN E (gy d n up):=by
 unfold gy
 split
 ·exact l
 ·rename_i af
  by_cases h0:d.m=0
  ·rw[h0,eE]at af
   omega
  ·have:=l h0
   exact p8 (lo:=E) (by omega)
theorem P0 (n:Nat):ec n 0=0:=by unfold ec;simp
theorem akZ (n:Nat):r1 n 0:=Int.dvd_zero _
theorem akp {n:Nat} (v:Int):h3 n false v≤v:=by unfold h3;rw[if_neg (by decide)];exact QM n v
theorem acn {n:Nat} (v:Int):v≤h3 n true v:=by
 unfold h3;rw[if_pos rfl]
 have:=QM n (-v)
 omega
theorem CI (M:Nat):(a5 M*a5 M=M∧cQ M=2*a5 M)∨(a5 M*a5 M<M∧cQ M=2*a5 M+1):=by
 have:=(pf M).1
 unfold cQ
 by_cases h:a5 M*a5 M<M
 ·exact Or.inr ⟨h,if_pos h⟩
 ·exact Or.inl ⟨by omega,if_neg h⟩
theorem ak0 {n M:Nat} (h:2^(2*n+3)≤M):2^(n+1)≤a5 M:=by
 refine Nat.le_of_not_lt fun h1=> ?_
 have h2:=(pf M).2
 have aq:(a5 M+1)*(a5 M+1)≤2^(n+1)*2^(n+1):=Nat.mul_le_mul h1 h1
 rw[←Nat.pow_add]at aq
 have aE:2^(n+1+(n+1))<2^(2*n+3):=Nat.pow_lt_pow_right (by decide) (by omega)
 omega
theorem HX (c u:Int):c*u*(c*u)=c*c*(u*u):=by
 rw[Int.mul_assoc,Int.mul_left_comm u,←Int.mul_assoc c c]
theorem gX {a b:Int} (h0:0≤a) (h:a≤b):a*a≤b*b:=Int.mul_le_mul h h h0 (by omega)
theorem ZS {n p:Nat} {s:Int} (h0:0≤s) (h:r1 n s) (a1:¬(2:Int)^p∣s):s<2^(n+p):=by
 have h1:bp s.natAbs - n<p:=Nat.lt_of_not_le fun h2=>a1 (Int.dvd_trans (AU h2) h)
 have h2:s.natAbs<2^(n+p):=by rw[←jP];omega
 have aq:((2^(n+p):Nat):Int)=2^(n+p):=Int.natCast_pow 2 _
 omega
section
set_option linter.unusedSectionVars false
variable {n p M:Nat} (aQ:1≤n) (cJ:M=0∨2^(2*n+3)≤M)
include aQ cJ
theorem QO (h:M≠0):(2:Int)^(n+2)≤(cQ M:Int):=by
 have aw:=ak0 (cJ.resolve_left h)
 have aq:((2^(n+2):Nat):Int)=2^(n+2):=Int.natCast_pow 2 _
 have aE:2^(n+2)=2*2^(n+1):=by rw[Nat.pow_succ];omega
 rcases CI M with ⟨_,e⟩|⟨_,e⟩<;>omega
theorem adb (v:Int) (aC:v.natAbs=cQ M*2^p):∃c,ec n v=c*2*2^p:=by
 by_cases h:M=0
 ·subst h
  have:v=0:=by rw[AG,Nat.zero_mul]at aC;omega
  exact⟨0,by rw[this,P0];simp⟩
 ·have aw:=QO aQ cJ h
  have aq:((2^(n+2):Nat):Int)=2^(n+2):=Int.natCast_pow 2 _
  have cf:cQ M≠0:=by
   have:=Nat.two_pow_pos (n+2)
   omega
  have aE:n+3≤bp (cQ M):=by
   refine Nat.le_of_not_lt fun aF=> ?_
   have:bp (cQ M)≤n+2:=by omega
   rw[jP]at this
   omega
  have aF:(2:Int)^(p+1)∣ec n v:=by
   unfold ec
   rw[aC,p2 cf]
   exact Int.dvd_trans (AU (by omega)) (Int.dvd_mul_left _ _)
  obtain⟨c,au⟩:=aF
  exact⟨c,by rw[au,Int.pow_succ,Int.mul_comm,Int.mul_comm (2^p),Int.mul_assoc]⟩
theorem akq:0≤ec n (cQ M*2^p)∧ec n (cQ M*2^p)*ec n (cQ M*2^p)≤4*M*(2^p*2^p)∧∀s,0≤s→r1 n s→s*s≤4*M*(2^p*2^p)→s≤ec n (cQ M*2^p):=by
 have hu:(0:Int)<2^p:=tn p
 have NQ:(0:Int)<2^p*2^p:=Int.mul_pos hu hu
 have cf:(0:Int)≤cQ M*2^p:=Int.mul_nonneg (by omega) (by omega)
 have h0:0≤ec n (cQ M*2^p):=Qs aQ (akZ n) cf
 refine⟨h0,?_,?_⟩
 ·obtain⟨c,au⟩:=adb (p:=p) aQ cJ (cQ M*2^p) (by rw[Int.natAbs_mul,Int.natAbs_pow];rfl)
  have aJ:=QM n (cQ M*2^p)
  rw[au]at aJ h0⊢
  have h1:=Int.le_of_mul_le_mul_right aJ hu
  have h2:0≤c*2:=by
   exact Int.le_of_mul_le_mul_right (b:=0) (by rw[Int.zero_mul];exact h0) hu
  have aq:c≤a5 M:=by rcases CI M with ⟨_,e⟩|⟨_,e⟩<;>omega
  rw[HX,HX]
  refine Int.mul_le_mul_of_nonneg_right ?_ (by omega)
  have aE:=gX (by omega) aq
  have aF:=(pf M).1
  have aN:((a5 M*a5 M:Nat):Int)=(a5 M:Int)*(a5 M:Int):=Int.natCast_mul _ _
  omega
 ·intro s aG aw a7
  refine Qs aQ aw (Int.not_lt.1 fun bw=> ?_)
  by_cases aL:(2:Int)^p∣s
  ·obtain⟨c,rfl⟩:=aL
   rw[Int.mul_comm (2^p) c]at aG a7 bw
   rw[HX]at a7
   have h1:=Int.le_of_mul_le_mul_right a7 NQ
   have h2:=Int.lt_of_mul_lt_mul_right bw (by omega)
   have aq:((a5 M*a5 M:Nat):Int)=(a5 M:Int)*(a5 M:Int):=Int.natCast_mul _ _
   have aE:=(pf M).2
   have aF:(((a5 M+1)*(a5 M+1):Nat):Int)=((a5 M:Int)+1)*((a5 M:Int)+1):=by rw[Int.natCast_mul];rfl
   rcases CI M with ⟨a4,bc⟩|⟨a4,bc⟩
   ·have aN:=gX (a:=2*(a5 M:Int)+1) (b:=c) (by omega) (by omega)
    have aM:(2*(a5 M:Int)+1)*(2*(a5 M:Int)+1)=4*((a5 M:Int)*(a5 M:Int))+4*(a5 M:Int)+1:=by
     simp only[Int.mul_add,Int.add_mul,Int.mul_one,Int.one_mul,Int.mul_assoc,Int.mul_left_comm _ 2]
     omega
    omega
   ·have aN:=gX (a:=2*((a5 M:Int)+1)) (b:=c) (by omega) (by omega)
    have aM:(2*((a5 M:Int)+1))*(2*((a5 M:Int)+1))=4*(((a5 M:Int)+1)*((a5 M:Int)+1)):=by
     rw[Int.mul_assoc,Int.mul_left_comm _ 2];omega
    omega
  ·by_cases h:M=0
   ·subst h
    rw[AG]at bw
    have:s*s≤0:=by simpa using a7
    have h2:1*s≤s*s:=Int.mul_le_mul_of_nonneg_right (by omega) aG
    omega
   ·have et:=QO aQ cJ h
    have h1:=ZS aG aw aL
    have h2:(2:Int)^(n+2)*2^p≤cQ M*2^p:=Int.mul_le_mul_of_nonneg_right et (by omega)
    rw[←Int.pow_add]at h2
    have aq:(2:Int)^(n+p)≤2^(n+2+p):=by
     have:=Nat.pow_le_pow_right (show 2>0 by decide) (show n+p≤n+2+p by omega)
     have a4:((2^(n+p):Nat):Int)=2^(n+p):=Int.natCast_pow 2 _
     have bc:((2^(n+2+p):Nat):Int)=2^(n+2+p):=Int.natCast_pow 2 _
     omega
    omega
theorem ajI:0≤h3 n true (cQ M*2^p)∧4*M*(2^p*2^p)≤h3 n true (cQ M*2^p)*h3 n true (cQ M*2^p)∧∀s,0≤s→r1 n s→4*M*(2^p*2^p)≤s*s→h3 n true (cQ M*2^p)≤s:=by
 have hu:(0:Int)<2^p:=tn p
 have NQ:(0:Int)<2^p*2^p:=Int.mul_pos hu hu
 have cf:(0:Int)≤cQ M*2^p:=Int.mul_nonneg (by omega) (by omega)
 have agx:=acn (n:=n) (cQ M*2^p)
 have h0:0≤h3 n true (cQ M*2^p):=by omega
 refine⟨h0,?_,?_⟩
 ·obtain⟨c',cT⟩:=adb (p:=p) aQ cJ (-(cQ M*2^p)) (by rw[Int.natAbs_neg,Int.natAbs_mul,Int.natAbs_pow];rfl)
  have au:h3 n true (cQ M*2^p)=(-c')*2*2^p:=by
   unfold h3;rw[if_pos rfl,cT,Int.neg_mul,Int.neg_mul]
  generalize -c'=c at au
  rw[au]at agx h0⊢
  have h1:=Int.le_of_mul_le_mul_right agx hu
  rw[HX]
  refine Int.mul_le_mul_of_nonneg_right ?_ (by omega)
  rcases CI M with ⟨a4,bc⟩|⟨a4,bc⟩
  ·have aq:((a5 M*a5 M:Nat):Int)=(a5 M:Int)*(a5 M:Int):=Int.natCast_mul _ _
   have aE:=gX (a:=2*(a5 M:Int)) (b:=c*2) (by omega) (by omega)
   have aF:2*(a5 M:Int)*(2*(a5 M:Int))=4*((a5 M:Int)*(a5 M:Int)):=by
    rw[Int.mul_assoc,Int.mul_left_comm _ 2];omega
   omega
  ·have aq:=(pf M).2
   have aF:(((a5 M+1)*(a5 M+1):Nat):Int)=((a5 M:Int)+1)*((a5 M:Int)+1):=by rw[Int.natCast_mul];rfl
   have aE:=gX (a:=2*((a5 M:Int)+1)) (b:=c*2) (by omega) (by omega)
   have aM:(2*((a5 M:Int)+1))*(2*((a5 M:Int)+1))=4*(((a5 M:Int)+1)*((a5 M:Int)+1)):=by
    rw[Int.mul_assoc,Int.mul_left_comm _ 2];omega
   omega
 ·intro s aG aw a7
  have key:cQ M*2^p≤s:=by
   refine Int.not_lt.1 fun bw=> ?_
   by_cases aL:(2:Int)^p∣s
   ·obtain⟨c,rfl⟩:=aL
    rw[Int.mul_comm (2^p) c]at aG a7 bw
    rw[HX]at a7
    have h1:=Int.le_of_mul_le_mul_right a7 NQ
    have h2:=Int.lt_of_mul_lt_mul_right bw (by omega)
    have e8:0≤c:=by
     exact Int.le_of_mul_le_mul_right (b:=0) (by rw[Int.zero_mul];exact aG) hu
    have aq:((a5 M*a5 M:Nat):Int)=(a5 M:Int)*(a5 M:Int):=Int.natCast_mul _ _
    rcases CI M with ⟨a4,bc⟩|⟨a4,bc⟩
    ·have aN:=gX (a:=c) (b:=2*(a5 M:Int) - 1) e8 (by omega)
     have aM:(2*(a5 M:Int) - 1)*(2*(a5 M:Int) - 1)=4*((a5 M:Int)*(a5 M:Int)) - 4*(a5 M:Int)+1:=by
      simp only[Int.mul_sub,Int.sub_mul,Int.mul_one,Int.one_mul,Int.mul_assoc,Int.mul_left_comm _ 2]
      omega
     omega
    ·have aN:=gX (a:=c) (b:=2*(a5 M:Int)) e8 (by omega)
     have aM:2*(a5 M:Int)*(2*(a5 M:Int))=4*((a5 M:Int)*(a5 M:Int)):=by
      rw[Int.mul_assoc,Int.mul_left_comm _ 2];omega
     omega
   ·by_cases h:M=0
    ·subst h
     rw[AG]at bw
     simp at bw
     omega
    ·have hm:=cJ.resolve_left h
     have h1:=ZS aG aw aL
     have h2:=gX aG (Int.le_of_lt h1)
     have aq:(2:Int)^(n+p)*2^(n+p)=2^(2*n)*(2^p*2^p):=by
      rw[←Int.pow_add,←Int.pow_add,←Int.pow_add];congr 1;omega
     rw[aq]at h2
     have aE:=Int.le_of_mul_le_mul_right (Int.le_trans a7 h2) NQ
     have aF:((2^(2*n):Nat):Int)=2^(2*n):=Int.natCast_pow 2 _
     have aN:2^(2*n)<2^(2*n+3):=Nat.pow_lt_pow_right (by decide) (by omega)
     omega
  unfold h3
  rw[if_pos rfl]
  have:=Qs aQ aw.neg (show -s≤-(cQ M*2^p)by omega)
  omega
end
theorem akr {n:Nat} (h:(ao n).length≤60):sl (ao n)=true:=by
 unfold sl
 simp only[Bool.and_eq_true,Bool.or_eq_true,decide_eq_true_eq,List.all_eq_true]
 refine⟨fun x aj=> ?_,by omega,?_⟩
 ·have:=c5 n x aj
  omega
 ·by_cases h0:n=0
  ·left;rw[h0,hk];rfl
  ·right;exact J2 h0
theorem P1 {d:a6} (h:d.win (-6000) 6000) (aw:bp d.m≤1400):iw d.neg (ao d.m) d.e=true:=by
 have aJ:=fo d.m
 unfold iw
 rw[akr (by omega)]
 simp only[Bool.true_and,Bool.and_eq_true,decide_eq_true_eq]
 refine⟨by omega,?_⟩
 by_cases h0:d.m=0
 ·obtain⟨h1,h2⟩:=h.1.1 h0
  rw[if_pos (by rw[h0,hk];rfl),h1,h2]
  rfl
 ·have:=xG h0
  rw[if_neg (by omega)]
  have bu:=h.1.2 h0
  have hw:=h.2 h0
  have h1:=OV d.m 0
  rw[Nat.pow_zero,Nat.div_one]at h1
  simp only[Bool.and_eq_true,decide_eq_true_eq]
  refine⟨?_,by omega,by omega⟩
  rw[h1]
  omega
theorem y3 {x y:a6} (aj:x.win (-6000) 6000) (hy:y.win (-6000) 6000) (az:bp x.m≤1400) (aw:bp y.m≤1400) (h:ej x y≤0):q6 x.neg (ao x.m) x.e y.neg (ao y.m) y.e=true:=by
 unfold q6
 rw[P1 aj az,P1 hy aw,b5,b5,Bool.true_and,Bool.true_and,decide_eq_true_eq]
 exact h
def zc (x:a6) (n:Nat):Nat:=x.m*2^(gu x n).toNat
def Hw (x:a6) (n:Nat) (E:Int):Nat:=((x.e - gu x n) / 2 - 1 - E).toNat
theorem Ph (x:a6) (n:Nat):zc x n=0∨2^(2*n+3)≤zc x n:=by
 unfold zc
 by_cases h0:x.m=0
 ·left;rw[h0,Nat.zero_mul]
 ·right
  have aw:=p2 h0 (gu x n).toNat
  have af:2*(n:Int)+4 - bp x.m≤gu x n:=by unfold gu;omega
  have h1:x.m*2^(gu x n).toNat≠0:=Nat.mul_ne_zero h0 (Nat.ne_of_gt (Nat.two_pow_pos _))
  have:=Oj h1
  refine Nat.le_trans (Nat.pow_le_pow_right (by decide) ?_) this
  omega
section
variable {x:a6} {n:Nat} {E:Int} (aQ:1≤n) (eN:E+1≤(x.e - gu x n) / 2)
include eN
theorem aem:fN E (mk false (cQ (x.m*2^(gu x n).toNat)) ((x.e - gu x n) / 2 - 1)):=p8 (lo:=E) (by omega)
theorem aaT (up:Bool):fN E (eo x n up):=(aem eN).cut n up
include aQ
theorem Lt (up:Bool):(eo x n up).V E=h3 n up (cQ (zc x n)*2^Hw x n E):=by
 unfold eo
 rw[QN (qS ..) (aem eN),wS _ _ (by omega)]
 rfl
theorem aaU (aj:fN (2*E) x) (a1:x.neg=false):x.V (2*E)=4*zc x n*(2^Hw x n E*2^Hw x n E):=by
 have h1:=GA x n
 have h2:=(Gv (x:=x) (n:=n) (by omega)).1
 unfold a6.V zc Hw
 rw[a1]
 show (x.m:Int)*_=_
 rw[←Int.pow_add,Int.natCast_mul,Int.natCast_pow,←Int.mul_assoc,Int.mul_comm 4,Int.mul_assoc,Int.mul_assoc,show (4:Int)=2^2 by rfl]
 congr 1
 show (2:Int)^_=((2:Nat):Int)^_*_
 rw[show ((2:Nat):Int)=2 from rfl,←Int.pow_add,←Int.pow_add]
 congr 1
 omega
theorem ajJ (aj:fN (2*E) x) (a1:x.neg=false):
 (0≤(eo x n false).V E∧(eo x n false).V E*(eo x n false).V E≤x.V (2*E)∧∀s,0≤s→r1 n s→s*s≤x.V (2*E)→s≤(eo x n false).V E)∧
 (0≤(eo x n true).V E∧x.V (2*E)≤(eo x n true).V E*(eo x n true).V E∧∀s,0≤s→r1 n s→x.V (2*E)≤s*s→(eo x n true).V E≤s):=by
 rw[Lt aQ eN,Lt aQ eN,aaU aQ eN aj a1]
 exact⟨akq aQ (Ph x n),ajI aQ (Ph x n)⟩
end
theorem aaV {lo hi lo' hi':Int} {x:a6} {n:Int} (h:x.win lo hi) (aQ:0≤n) (l:2*lo'≤lo - 2*n - 8) (k:hi+6≤2*hi') (up:Bool):(eo x n up).win lo' hi':=by
 unfold eo
 have:hi'=(hi' - 1)+1:=by omega
 rw[this]
 refine Pz (hi:=hi' - 1) (sg fun cf=> ?_) n (by omega) up
 have h0:x.m≠0:=fun e=>cf (by rw[e,Nat.zero_mul,AG])
 have hw:=h.2 h0
 have af:=Gv (x:=x) (n:=n) (by omega)
 have he:=GA x n
 have aw:=Kt (x.m*2^(gu x n).toNat)
 rw[p2 h0]at aw
 omega
theorem aco {lo hi:Int} :(⟨⟨false,0,0⟩,⟨false,0,0⟩⟩:bP).win lo hi:=by
 have:(⟨false,0,0⟩:a6).win lo hi:=⟨⟨fun _=>⟨rfl,rfl⟩,fun h=>absurd rfl h⟩,fun h=>absurd rfl h⟩
 exact⟨this,this⟩
theorem P2 {lo hi lo' hi':Int} {x:bP} {n:Int} (h:x.win lo hi) (aQ:0≤n) (l:2*lo'≤lo - 2*n - 9) (k:hi+5≤2*hi'):(gI x n).win lo' hi':=by
 unfold gI
 split
 ·exact aco
 ·have s:=PE h (-1)
  exact⟨aaV s.1 aQ (by omega) (by omega) _,aaV s.2 aQ (by omega) (by omega) _⟩
def i1:bP:=⟨d1,d1⟩
theorem Ev {lo hi:Int} (l:lo≤0) (k:1≤hi):i1.win lo hi:=by
 have:d1.win lo hi:=Ls (e:=0) l (by omega)
 exact⟨this,this⟩
def aC (w:Int):Nat→dI
 |0=>⟨gI i1 w,gI i1 w⟩
 |k+1=>⟨gI (dJ i1 (aC w k).c) w,gI (dJ i1 (dd (aC w k).c)) w⟩
theorem zr {w:Int} (hw:0≤w):∀k,(aC w k).win (-(2*w+16)) 8
 |0=>by
  have:(gI i1 w).win (-(2*w+16)) 8:=P2 (Ev (lo:=0) (hi:=1) (by omega) (by omega)) hw (by omega) (by omega)
  exact⟨this,this⟩
 |k+1=>by
  have h:=(zr hw k).1
  have o:i1.win (-(2*w+16)) 8:=Ev (by omega) (by omega)
  exact⟨P2 (tz o h) hw (by omega) (by omega),P2 (tz o (r8 h)) hw (by omega) (by omega)⟩
def rE (K Q w:Int):Nat→Nat→dI→dI
 |0,_,p=>p
 |k+1,q,p=>rE K Q w k (q+1) (if (K.toNat / 2^(Q.toNat - q)) % 2=1 then tC p (aC w (q - 3)) w else p)
def p0:dI:=⟨i1,⟨⟨false,0,0⟩,⟨false,0,0⟩⟩⟩
theorem wM {lo hi lo' hi':Int} {x:dI} (h:x.win lo hi) (l:lo'≤lo) (k:hi≤hi'):x.win lo' hi':=⟨gv h.1 l k,gv h.2 l k⟩
theorem ade {K Q w:Int} (hw:0≤w):∀(k q:Nat) {p:dI} {lo hi:Int},p.win lo hi→(rE K Q w k q p).win (lo - k*(2*w+16)) (hi+10*k)
 |0,_,_,_,_,h=>wM h (by omega) (by omega)
 |k+1,q,p,lo,hi,h=>by
  unfold rE
  have e:lo - ((k+1:Nat):Int)*(2*w+16)=lo+ -(2*w+16) - k*(2*w+16):=by
   rw[Int.natCast_add,Int.add_mul];omega
  rw[e]
  refine wM (ade hw k (q+1) (lo:=lo+ -(2*w+16)) (hi:=hi+8+2) ?_) (Int.le_refl _) (by omega)
  split
  ·exact PZ h (zr hw _) hw
  ·exact wM h (by omega) (by omega)
theorem SK {lo hi:Int} (l:lo≤0) (k:1≤hi):p0.win lo hi:=⟨Ev l k,aco⟩
def rest (K Q w:Int):dI:=rE K Q w (Q - 2).toNat 3 p0
def eb (a:Nat) (w:Int):dI:=
 let r:=rest (bS (cz a)) (a2 (cz a)) w
 let e:=cw a
 let r:=if e=1∨e=2∨e=5∨e=6 then ⟨r.s,r.c⟩else r
 let r:=if 2≤e∧e≤5 then ⟨dd r.c,r.s⟩else r
 if 4≤e then ⟨r.c,dd r.s⟩else r
theorem Qt {K Q w:Int} (h0:Q≤14) (hw:0≤w) (gg:w≤800):(rest K Q w).win (-20000) 200:=by
 unfold rest
 have h:=ade (K:=K) (Q:=Q) hw (Q - 2).toNat 3 (SK (lo:=0) (hi:=1) (by omega) (by omega))
 have h1:((Q - 2).toNat:Int)*(2*w+16)≤12*(2*w+16):=Int.mul_le_mul_of_nonneg_right (by omega) (by omega)
 exact wM h (by omega) (by omega)
theorem wE {Γ:Env} {c:ay} {Q:e6→St→Prop} {σ:St} (K:St→Prop) (h:cp Γ c (fun e s=>match e with| .normal=>K s|_=>False) σ) (aw:∀s,K s→Q .normal s):cp Γ c Q σ:=
 j7 c (fun e s aG=>by
  cases e with
  |normal=>exact aw s aG
  |exit j=>exact aG.elim
  |ret=>exact aG.elim) h
def tQ:bC where
 pre:=fun ds=>∃(a:Nat) (w:Int),ds=[iW a,.int .i64 w]∧a≤144115188075855872∧a2 a≤14∧0≤w∧w≤800
 res:=fun ds=>match ds with
  |[.agg [.int _ K,.int _ Q],.int _ w]=>dX (rest K Q w)
  |_=> .nilp
def rb:bC where
 pre:=fun ds=>∃(K:Int) (Q:Nat) (w:Int),ds=[cq K Q,.int .i64 w]∧Q≤60∧a2 (cz (an K Q))≤14∧0≤w∧w≤800
 res:=fun ds=>match ds with
  |[.agg [.int _ K,.int _ Q],.int _ w]=>dX (eb (an K Q.toNat) w)
  |_=> .nilp
def h4 (k:Nat) (p:dI) (s:St):Prop:=s.ag k= .box k 0∧s.az k=some ⟨false,false,.cells [.d (.bool p.c.lo.neg),.d (.ints .i64 (ao p.c.lo.m)),.d (.int .i64 p.c.lo.e),.d (.bool p.c.hi.neg),.d (.ints .i64 (ao p.c.hi.m)),.d (.int .i64 p.c.hi.e),.d (.bool p.s.lo.neg),.d (.ints .i64 (ao p.s.lo.m)),.d (.int .i64 p.s.lo.e),.d (.bool p.s.hi.neg),.d (.ints .i64 (ao p.s.hi.m)),.d (.int .i64 p.s.hi.e)]⟩
def h6 (s:St):Prop:=s.ag 4= .box 4 0∧s.az 4=some ⟨false,false,.cells [.d (.bool false),.d (.ints .i64 []),.d (.int .i64 0),.d (.bool false),.d (.ints .i64 []),.d (.int .i64 0),.d (.bool false),.d (.ints .i64 []),.d (.int .i64 0),.d (.bool false),.d (.ints .i64 []),.d (.int .i64 0)]⟩
theorem Ew (Γ:Env) (anj:Γ.has 134 q4) (ank:Γ.has 135 tQ) (anl:Γ.has 136 q5) (FM:Γ.has 27 jr) (ds:List D) (h:rb.pre ds):bT Γ Rz RA ds fun d=>d=rb.res ds:=by
 obtain⟨K,Q,w,rfl,cK,a7,fr,gg⟩:=h
 have cu:rb.res [cq K Q,.int .i64 w]=dX (eb (an K Q) w):=by simp only[rb,cq,Int.toNat_natCast]
 rw[cu]
 obtain⟨a,a9⟩:∃a,a=an K Q:=⟨_,rfl⟩
 have cI:a<1152921504606846976:=a9▸hv K Q
 have p1:q4.pre [.agg [.int .i64 K,.int .i64 Q]]:=⟨K,Q,rfl,cK⟩
 have bX:q4.res [.agg [.int .i64 K,.int .i64 Q]]= .agg [.int .i64 (cw a),.int .i64 (bS (cz a)),.int .i64 (a2 (cz a))]:=by simp only[q4,Int.toNat_natCast,←a9];rfl
 rw[←a9]at a7⊢
 have cU:tQ.pre [.agg [.int .i64 (bS (cz a)),.int .i64 (a2 (cz a))],.int .i64 w]:=⟨cz a,w,rfl,Dh a,a7,fr,gg⟩
 have ch:tQ.res [.agg [.int .i64 (bS (cz a)),.int .i64 (a2 (cz a))],.int .i64 w]=dX (rest (bS (cz a)) (a2 (cz a)) w):=rfl
 have ar:=Qt (K:=bS (cz a)) (Q:=a2 (cz a)) (by omega) fr gg
 unfold eb
 obtain⟨r,Ar⟩:∃r,r=rest (bS (cz a)) (a2 (cz a)) w:=⟨_,rfl⟩
 rw[←Ar]at ch ar⊢
 have eN:=Bf cI
 obtain⟨e,he⟩:∃e,e=cw a:=⟨_,rfl⟩
 rw[←he]at bX eN⊢
 obtain⟨cy,et⟩:∃b,b=decide ((e:Int)=1∨(e:Int)=2∨(e:Int)=5∨(e:Int)=6):=⟨_,rfl⟩
 obtain⟨aR,kl⟩:∃b,b=decide (2≤(e:Int)∧(e:Int)≤5):=⟨_,rfl⟩
 obtain⟨aW,Cl⟩:∃b,b=decide (4≤(e:Int)):=⟨_,rfl⟩
 have gT:q5.pre [.int .i64 e]:=⟨e,rfl,by omega,by omega⟩
 have gS:q5.res [.int .i64 e]= .fh [.bool cy,.bool aR,.bool aW]:=by rw[et,kl,Cl];rfl
 have bR:(e=1∨e=2∨e=5∨e=6)↔cy=true:=by rw[et,decide_eq_true_iff];omega
 have cN:(2≤e∧e≤5)↔aR=true:=by rw[kl,decide_eq_true_iff];omega
 have fL:(4≤e)↔aW=true:=by rw[Cl,decide_eq_true_iff];omega
 simp only[bR,cN,fL]
 clear bR cN fL et kl Cl
 obtain⟨u,hu⟩:∃u:dI,u=if cy=true then ⟨r.s,r.c⟩else r:=⟨_,rfl⟩
 have uG:u.win (-20000) 200:=by rw[hu];split;exact⟨ar.2,ar.1⟩;exact ar
 obtain⟨v,aC⟩:∃v:dI,v=if aR=true then ⟨dd u.c,u.s⟩else u:=⟨_,rfl⟩
 have ahz:v.win (-20000) 200:=by rw[aC];split;exact⟨r8 uG.1,uG.2⟩;exact uG
 rw[←hu,←aC]
 unfold dX aZ at ch
 rw[fU]
 unfold Rz RA
 refine b3 (fun s=>s.ag 1= .d (.int .i64 w)∧s.ag 2= .box 2 0∧s.az 2=some ⟨false,false,.cells [.d (.int .i64 K),.d (.int .i64 Q)]⟩∧h6 s) ?_ ?_
 ·simp (maxSteps:=2000000) only[↓al,ak,↓reduceIte,reduceCtorEq,Nat.reduceEqDiff,Nat.reduceLeDiff,Nat.reduceSub,Nat.reduceAdd,Int.reduceToNat,Nat.reducePow,Int.reducePow,Int.reduceLE,Int.reduceLT,IntKind.bits,cq,h6]
 rintro s ⟨h1,h2,cN,aE,aS⟩
 refine b3 (fun s=>s.ag 1= .d (.int .i64 w)∧s.ag 5= .box 5 0∧s.az 5=some ⟨false,false,.cells [.d (.int .i64 e),.d (.int .i64 (bS (cz a))),.d (.int .i64 (a2 (cz a)))]⟩∧h6 s) ?_ ?_
 ·simp (maxSteps:=2000000) only[↓al,ak,↓reduceIte,reduceCtorEq,Nat.reduceEqDiff,Nat.reduceLeDiff,Nat.reduceSub,Nat.reduceAdd,Int.reduceToNat,Nat.reducePow,Int.reducePow,Int.reduceLE,Int.reduceLT,IntKind.bits,h1,h2,cN,aE,aS,h6,anj,p1,bX]
 rintro s ⟨h1,aF,bm,aE,aS⟩
 refine b3 (fun s=>s.ag 5= .box 5 0∧s.az 5=some ⟨false,false,.cells [.d (.int .i64 e),.d (.int .i64 (bS (cz a))),.d (.int .i64 (a2 (cz a)))]⟩∧h6 s∧h4 6 r s) ?_ ?_
 ·simp (maxSteps:=2000000) only[↓al,ak,↓reduceIte,reduceCtorEq,Nat.reduceEqDiff,Nat.reduceLeDiff,Nat.reduceSub,Nat.reduceAdd,Int.reduceToNat,Nat.reducePow,Int.reducePow,Int.reduceLE,Int.reduceLT,IntKind.bits,h1,aF,bm,aE,aS,h6,h4,ank,cU,ch]
 rintro s ⟨aF,bm,⟨aE,aS⟩,aN,a8⟩
 refine b3 (fun s=>s.ag 7= .d (.bool cy)∧s.ag 8= .d (.bool aR)∧s.ag 9= .d (.bool aW)∧h6 s∧h4 6 r s) ?_ ?_
 ·simp (maxSteps:=2000000) only[↓al,ak,↓reduceIte,reduceCtorEq,Nat.reduceEqDiff,Nat.reduceLeDiff,Nat.reduceSub,Nat.reduceAdd,Int.reduceToNat,Nat.reducePow,Int.reducePow,Int.reduceLE,Int.reduceLT,IntKind.bits,aF,bm,aE,aS,aN,a8,h6,h4,anl,gT,gS]
 rintro s ⟨aM,aY,bd,⟨aE,aS⟩,aN,a8⟩
 refine b3 (fun s=>s.ag 8= .d (.bool aR)∧s.ag 9= .d (.bool aW)∧h6 s∧h4 6 u s) ?_ ?_
 ·rw[hu]
  cases cy<;>simp (maxSteps:=2000000) only[↓al,ak,↓reduceIte,reduceCtorEq,Nat.reduceEqDiff,Nat.reduceLeDiff,Nat.reduceSub,Nat.reduceAdd,Int.reduceToNat,Nat.reducePow,Int.reducePow,Int.reduceLE,Int.reduceLT,IntKind.bits,aM,aY,bd,aE,aS,aN,a8,h6,h4,Bool.false_eq_true]
 rintro s ⟨aY,bd,⟨aE,aS⟩,aN,a8⟩
 refine b3 (fun s=>s.ag 9= .d (.bool aW)∧h6 s∧h4 6 v s) ?_ ?_
 ·rw[aC]
  have kY:jr.pre [.agg [.bool u.c.lo.neg,.ints .i64 (ao u.c.lo.m),.int .i64 u.c.lo.e,.bool u.c.hi.neg,.ints .i64 (ao u.c.hi.m),.int .i64 u.c.hi.e]]:=⟨u.c,rfl,gv uG.1 (by omega) (by omega)⟩
  have iY:jr.res [.agg [.bool u.c.lo.neg,.ints .i64 (ao u.c.lo.m),.int .i64 u.c.lo.e,.bool u.c.hi.neg,.ints .i64 (ao u.c.hi.m),.int .i64 u.c.hi.e]]=aA (dd u.c):=by simp only[jr,dq]
  unfold aA aZ at iY
  cases aR<;>simp (maxSteps:=2000000) only[↓al,ak,↓reduceIte,reduceCtorEq,Nat.reduceEqDiff,Nat.reduceLeDiff,Nat.reduceSub,Nat.reduceAdd,Int.reduceToNat,Nat.reducePow,Int.reducePow,Int.reduceLE,Int.reduceLT,IntKind.bits,aY,bd,aE,aS,aN,a8,h6,h4,FM,kY,iY,Bool.false_eq_true]
 rintro s ⟨bd,⟨aE,aS⟩,aN,a8⟩
 refine b3 (fun s=>h6 s∧h4 6 (if aW=true then ⟨v.c,dd v.s⟩else v) s) ?_ ?_
 ·have kY:jr.pre [.agg [.bool v.s.lo.neg,.ints .i64 (ao v.s.lo.m),.int .i64 v.s.lo.e,.bool v.s.hi.neg,.ints .i64 (ao v.s.hi.m),.int .i64 v.s.hi.e]]:=⟨v.s,rfl,gv ahz.2 (by omega) (by omega)⟩
  have iY:jr.res [.agg [.bool v.s.lo.neg,.ints .i64 (ao v.s.lo.m),.int .i64 v.s.lo.e,.bool v.s.hi.neg,.ints .i64 (ao v.s.hi.m),.int .i64 v.s.hi.e]]=aA (dd v.s):=by simp only[jr,dq]
  unfold aA aZ at iY
  cases aW<;>simp (maxSteps:=2000000) only[↓al,ak,↓reduceIte,reduceCtorEq,Nat.reduceEqDiff,Nat.reduceLeDiff,Nat.reduceSub,Nat.reduceAdd,Int.reduceToNat,Nat.reducePow,Int.reducePow,Int.reduceLE,Int.reduceLT,IntKind.bits,bd,aE,aS,aN,a8,h6,h4,FM,kY,iY,Bool.false_eq_true]
 generalize (if aW=true then (⟨v.c,dd v.s⟩:dI)else v)=z
 rintro s ⟨⟨aE,aS⟩,aN,a8⟩
 simp (maxSteps:=2000000) only[↓al,ak,↓reduceIte,reduceCtorEq,Nat.reduceEqDiff,Nat.reduceLeDiff,Nat.reduceSub,Nat.reduceAdd,Int.reduceToNat,Nat.reducePow,Int.reducePow,Int.reduceLE,Int.reduceLT,IntKind.bits,aE,aS,aN,a8,dX,aZ]
def qI (p:dI):List D:=[.bool p.c.lo.neg,aZ p.c.lo.m,.int .i64 p.c.lo.e,.bool p.c.hi.neg,aZ p.c.hi.m,.int .i64 p.c.hi.e,.bool p.s.lo.neg,aZ p.s.lo.m,.int .i64 p.s.lo.e,.bool p.s.hi.neg,aZ p.s.hi.m,.int .i64 p.s.hi.e]
def yq (w:Int) (n:Nat):D:= .recs 12 ((List.range n).map fun k=>qI (aC w k))
def kt (p:dI):D:= .fh [aA p.c,aA p.s]
def BE:bC where
 pre:=fun ds=>∃(a:Nat) (w:Int) (n:Nat),ds=[iW a,.int .i64 w,yq w n]∧a≤144115188075855872∧a2 a≤14∧a2 a≤n+2∧0≤w∧w≤800
 res:=fun ds=>match ds with
  |[.agg [.int _ K,.int _ Q],.int _ w,_]=>kt (rest K Q w)
  |_=> .nilp
def x4:bC where
 pre:=fun ds=>∃(K:Int) (Q:Nat) (w:Int) (n:Nat),ds=[cq K Q,.int .i64 w,yq w n]∧Q≤60∧aO K∧a2 (cz (an K Q))≤14∧a2 (cz (an K Q))≤n+2∧0≤w∧w≤800
 res:=fun ds=>match ds with
  |[.agg [.int _ K,.int _ Q],.int _ w,_]=>kt (eb (an K Q.toNat) w)
  |_=> .nilp
def cx (k:Nat) (x:bP) (s:St):Prop:=s.ag k= .box k 0∧s.az k=some ⟨false,false,.cells [.d (.bool x.lo.neg),.d (.ints .i64 (ao x.lo.m)),.d (.int .i64 x.lo.e),.d (.bool x.hi.neg),.d (.ints .i64 (ao x.hi.m)),.d (.int .i64 x.hi.e)]⟩
def cS (k:Nat) (s:St):Prop:=s.ag k= .box k 0∧s.az k=some ⟨false,false,.cells [.d (.bool false),.d (.ints .i64 []),.d (.int .i64 0),.d (.bool false),.d (.ints .i64 []),.d (.int .i64 0)]⟩
theorem anm (Γ:Env) (ann:Γ.has 137 x3) (ano:Γ.has 138 BE) (anp:Γ.has 139 BD) (s5:Γ.has 28 gC) (ds:List D) (h:x4.pre ds):bT Γ RB RC ds fun d=>d=x4.res ds:=by
 obtain⟨K,Q,w,n,rfl,cK,cj,a7,B2,fr,gg⟩:=h
 have cu:x4.res [cq K Q,.int .i64 w,yq w n]=kt (eb (an K Q) w):=by simp only[x4,cq,Int.toNat_natCast]
 rw[cu]
 obtain⟨a,a9⟩:∃a,a=an K Q:=⟨_,rfl⟩
 have cI:a<1152921504606846976:=a9▸hv K Q
 have p1:x3.pre [.agg [.int .i64 K,.int .i64 Q]]:=⟨K,Q,rfl,cK,cj⟩
 have bX:x3.res [.agg [.int .i64 K,.int .i64 Q]]= .agg [.int .i64 (cw a),.int .i64 (bS (cz a)),.int .i64 (a2 (cz a))]:=by simp only[x3,Int.toNat_natCast,←a9];rfl
 rw[←a9]at a7 B2⊢
 obtain⟨L,dO⟩:∃L,L=(List.range n).map fun k=>qI (aC w k):=⟨_,rfl⟩
 have WM:yq w n= .recs 12 L:=by rw[dO];rfl
 have cU:BE.pre [.agg [.int .i64 (bS (cz a)),.int .i64 (a2 (cz a))],.int .i64 w,yq w n]:=⟨cz a,w,n,rfl,Dh a,a7,B2,fr,gg⟩
 have ch:BE.res [.agg [.int .i64 (bS (cz a)),.int .i64 (a2 (cz a))],.int .i64 w,yq w n]=kt (rest (bS (cz a)) (a2 (cz a)) w):=rfl
 rw[WM]at cU ch⊢
 have ar:=Qt (K:=bS (cz a)) (Q:=a2 (cz a)) (by omega) fr gg
 unfold eb
 obtain⟨r,Ar⟩:∃r,r=rest (bS (cz a)) (a2 (cz a)) w:=⟨_,rfl⟩
 rw[←Ar]at ch ar⊢
 have eN:=Bf cI
 obtain⟨e,he⟩:∃e,e=cw a:=⟨_,rfl⟩
 rw[←he]at bX eN⊢
 obtain⟨cy,et⟩:∃b,b=decide ((e:Int)=1∨(e:Int)=2∨(e:Int)=5∨(e:Int)=6):=⟨_,rfl⟩
 obtain⟨aR,kl⟩:∃b,b=decide (2≤(e:Int)∧(e:Int)≤5):=⟨_,rfl⟩
 obtain⟨aW,Cl⟩:∃b,b=decide (4≤(e:Int)):=⟨_,rfl⟩
 have gT:BD.pre [.int .i64 e]:=⟨e,rfl,by omega,by omega⟩
 have gS:BD.res [.int .i64 e]= .fh [.bool cy,.bool aR,.bool aW]:=by rw[et,kl,Cl];rfl
 have bR:(e=1∨e=2∨e=5∨e=6)↔cy=true:=by rw[et,decide_eq_true_iff];omega
 have cN:(2≤e∧e≤5)↔aR=true:=by rw[kl,decide_eq_true_iff];omega
 have fL:(4≤e)↔aW=true:=by rw[Cl,decide_eq_true_iff];omega
 simp only[bR,cN,fL]
 clear bR cN fL et kl Cl
 obtain⟨u,hu⟩:∃u:dI,u=if cy=true then ⟨r.s,r.c⟩else r:=⟨_,rfl⟩
 have uG:u.win (-20000) 200:=by rw[hu];split;exact⟨ar.2,ar.1⟩;exact ar
 obtain⟨v,aC⟩:∃v:dI,v=if aR=true then ⟨dd u.c,u.s⟩else u:=⟨_,rfl⟩
 have ahz:v.win (-20000) 200:=by rw[aC];split;exact⟨r8 uG.1,uG.2⟩;exact uG
 rw[←hu,←aC]
 unfold kt aA aZ at ch
 rw[fU]
 unfold RB RC
 refine b3 (fun s=>s.ag 1= .d (.int .i64 w)∧s.ag 2= .d (.recs 12 L)∧s.ag 3= .box 3 0∧s.az 3=some ⟨false,false,.cells [.d (.int .i64 K),.d (.int .i64 Q)]⟩∧cS 6 s∧cS 7 s) ?_ ?_
 ·simp (maxSteps:=2000000) only[↓al,ak,↓reduceIte,reduceCtorEq,Nat.reduceEqDiff,Nat.reduceLeDiff,Nat.reduceSub,Nat.reduceAdd,Int.reduceToNat,Nat.reducePow,Int.reducePow,Int.reduceLE,Int.reduceLT,IntKind.bits,cq,cS]
 rintro s ⟨h1,h2,aq,fL,⟨aN,a8⟩,aM,bb⟩
 refine b3 (fun s=>s.ag 1= .d (.int .i64 w)∧s.ag 2= .d (.recs 12 L)∧s.ag 8= .box 8 0∧s.az 8=some ⟨false,false,.cells [.d (.int .i64 e),.d (.int .i64 (bS (cz a))),.d (.int .i64 (a2 (cz a)))]⟩∧cS 6 s∧cS 7 s) ?_ ?_
 ·simp (maxSteps:=2000000) only[↓al,ak,↓reduceIte,reduceCtorEq,Nat.reduceEqDiff,Nat.reduceLeDiff,Nat.reduceSub,Nat.reduceAdd,Int.reduceToNat,Nat.reducePow,Int.reducePow,Int.reduceLE,Int.reduceLT,IntKind.bits,h1,h2,aq,fL,aN,a8,aM,bb,cS,ann,p1,bX]
 rintro s ⟨h1,h2,aY,bk,⟨aN,a8⟩,aM,bb⟩
 refine b3 (fun s=>s.ag 8= .box 8 0∧s.az 8=some ⟨false,false,.cells [.d (.int .i64 e),.d (.int .i64 (bS (cz a))),.d (.int .i64 (a2 (cz a)))]⟩∧cx 9 r.c s∧cx 10 r.s s∧cS 6 s∧cS 7 s) ?_ ?_
 ·simp (maxSteps:=2000000) only[↓al,ak,↓reduceIte,reduceCtorEq,Nat.reduceEqDiff,Nat.reduceLeDiff,Nat.reduceSub,Nat.reduceAdd,Int.reduceToNat,Nat.reducePow,Int.reducePow,Int.reduceLE,Int.reduceLT,IntKind.bits,h1,h2,aY,bk,aN,a8,aM,bb,cx,cS,ano,cU,ch]
 rintro s ⟨aY,bk,⟨bd,bL⟩,⟨hA,yJ⟩,⟨aN,a8⟩,aM,bb⟩
 refine b3 (fun s=>s.ag 11= .d (.bool cy)∧s.ag 12= .d (.bool aR)∧s.ag 13= .d (.bool aW)∧cx 9 r.c s∧cx 10 r.s s∧cS 6 s∧cS 7 s) ?_ ?_
 ·simp (maxSteps:=2000000) only[↓al,ak,↓reduceIte,reduceCtorEq,Nat.reduceEqDiff,Nat.reduceLeDiff,Nat.reduceSub,Nat.reduceAdd,Int.reduceToNat,Nat.reducePow,Int.reducePow,Int.reduceLE,Int.reduceLT,IntKind.bits,aY,bk,bd,bL,hA,yJ,aN,a8,aM,bb,cx,cS,anp,gT,gS]
 rintro s ⟨ad,g4,qH,⟨bd,bL⟩,⟨hA,yJ⟩,⟨aN,a8⟩,aM,bb⟩
 refine b3 (fun s=>s.ag 12= .d (.bool aR)∧s.ag 13= .d (.bool aW)∧cx 9 u.c s∧cx 10 u.s s∧cS 6 s∧cS 7 s) ?_ ?_
 ·rw[hu]
  cases cy<;>simp (maxSteps:=2000000) only[↓al,ak,↓reduceIte,reduceCtorEq,Nat.reduceEqDiff,Nat.reduceLeDiff,Nat.reduceSub,Nat.reduceAdd,Int.reduceToNat,Nat.reducePow,Int.reducePow,Int.reduceLE,Int.reduceLT,IntKind.bits,ad,g4,qH,bd,bL,hA,yJ,aN,a8,aM,bb,cx,cS,Bool.false_eq_true]
 rintro s ⟨g4,qH,⟨bd,bL⟩,⟨hA,yJ⟩,⟨aN,a8⟩,aM,bb⟩
 refine b3 (fun s=>s.ag 13= .d (.bool aW)∧cx 9 v.c s∧cx 10 v.s s∧cS 6 s∧cS 7 s) ?_ ?_
 ·rw[aC]
  have kY:gC.pre [.agg [.bool u.c.lo.neg,.ints .i64 (ao u.c.lo.m),.int .i64 u.c.lo.e,.bool u.c.hi.neg,.ints .i64 (ao u.c.hi.m),.int .i64 u.c.hi.e]]:=⟨u.c,rfl⟩
  have iY:gC.res [.agg [.bool u.c.lo.neg,.ints .i64 (ao u.c.lo.m),.int .i64 u.c.lo.e,.bool u.c.hi.neg,.ints .i64 (ao u.c.hi.m),.int .i64 u.c.hi.e]]=aA (dd u.c):=by simp only[gC,dq]
  unfold aA aZ at iY
  cases aR<;>simp (maxSteps:=2000000) only[↓al,ak,↓reduceIte,reduceCtorEq,Nat.reduceEqDiff,Nat.reduceLeDiff,Nat.reduceSub,Nat.reduceAdd,Int.reduceToNat,Nat.reducePow,Int.reducePow,Int.reduceLE,Int.reduceLT,IntKind.bits,g4,qH,bd,bL,hA,yJ,aN,a8,aM,bb,cx,cS,s5,kY,iY,Bool.false_eq_true]
 rintro s ⟨qH,⟨bd,bL⟩,⟨hA,yJ⟩,⟨aN,a8⟩,aM,bb⟩
 refine b3 (fun s=>cx 9 (if aW=true then (⟨v.c,dd v.s⟩:dI)else v).c s∧cx 10 (if aW=true then (⟨v.c,dd v.s⟩:dI)else v).s s∧cS 6 s∧cS 7 s) ?_ ?_
 ·have kY:gC.pre [.agg [.bool v.s.lo.neg,.ints .i64 (ao v.s.lo.m),.int .i64 v.s.lo.e,.bool v.s.hi.neg,.ints .i64 (ao v.s.hi.m),.int .i64 v.s.hi.e]]:=⟨v.s,rfl⟩
  have iY:gC.res [.agg [.bool v.s.lo.neg,.ints .i64 (ao v.s.lo.m),.int .i64 v.s.lo.e,.bool v.s.hi.neg,.ints .i64 (ao v.s.hi.m),.int .i64 v.s.hi.e]]=aA (dd v.s):=by simp only[gC,dq]
  unfold aA aZ at iY
  cases aW<;>simp (maxSteps:=2000000) only[↓al,ak,↓reduceIte,reduceCtorEq,Nat.reduceEqDiff,Nat.reduceLeDiff,Nat.reduceSub,Nat.reduceAdd,Int.reduceToNat,Nat.reducePow,Int.reducePow,Int.reduceLE,Int.reduceLT,IntKind.bits,qH,bd,bL,hA,yJ,aN,a8,aM,bb,cx,cS,s5,kY,iY,Bool.false_eq_true]
 generalize (if aW=true then (⟨v.c,dd v.s⟩:dI)else v)=z
 rintro s ⟨⟨bd,bL⟩,⟨hA,yJ⟩,⟨aN,a8⟩,aM,bb⟩
 simp (maxSteps:=2000000) only[↓al,ak,↓reduceIte,reduceCtorEq,Nat.reduceEqDiff,Nat.reduceLeDiff,Nat.reduceSub,Nat.reduceAdd,Int.reduceToNat,Nat.reducePow,Int.reducePow,Int.reduceLE,Int.reduceLT,IntKind.bits,bd,bL,hA,yJ,aN,a8,aM,bb,kt,aA,aZ]
 exact⟨by decide,by decide⟩
def tR:bC where
 pre:=fun ds=>∃w:Int,ds=[.int .i64 w]
 res:=fun ds=>match ds with
  |[w]=> .fn 155 [] [.ptr [w]]
  |_=> .nilp
theorem Ex (Γ:Env) (ds:List D) (h:tR.pre ds):bT Γ Sy Sz ds fun d=>d=tR.res ds:=by
 obtain⟨w,rfl⟩:=h
 simp (maxSteps:=2000000) only[↓al,ak,↓reduceIte,reduceCtorEq,Nat.reduceEqDiff,Nat.reduceLeDiff,Nat.reduceSub,Nat.reduceAdd,Int.reduceToNat,Nat.reducePow,Int.reducePow,Int.reduceLE,Int.reduceLT,IntKind.bits,Sy,Sz,tR]
def BF:qG where
 pre:=fun ds=>∃w:Int,ds=[.ptr [.int .i64 w]]∧0≤w∧w≤800
 seq:=fun ds k=>match ds with
  |[.ptr [.int _ w]]=>some [dX (aC w k)]
  |_=>none
end RV.Dr
