/- Lemmas for a claim: an abstract machine for the translated code, proved sound, and contracts of functions. By an AI agent. -/
import Derived.Test.YtmdjhngbigfblaaGreatDoorRj
import Derived.Test.YtmdjhngbigfblaaGreatDoorRh
import Derived.Test.YtmdjhngbigfblaaGreatDoorRa
import Derived.ProofKit
import Derived.OpenShut
import Derived.ChangeSlices
set_option linter.all false
namespace RV.Dr
open Go RV RR
set_option linter.unusedSimpArgs false
set_option linter.unusedVariables false
set_option maxRecDepth 100000
set_option maxHeartbeats 8000000
theorem Lk {b:Bool} {a n:Nat} {I:bP} (h:a<1152921504606846976) (a7:a2 a≤14) (aQ:n≤160) (hJ:eT I (eD b a) n):dR b a n=I:=(iK h a7 aQ).uniq hJ
theorem QQ (b:Bool) (m:Nat) (e:Int):bo (mk b m e)=aD (dU b m)*aK e:=by
 have:=wS (E:=e) b m (Int.le_refl e)
 rw[pC (E:=e) (p8 (Int.le_refl _)),this,Int.sub_self];simp
theorem XF {x:R} {V n z:Nat} (h1:aD V≤x*aK 256) (h2:x*aK 256≤aD V+aD 2) (aQ:n≤256) (bE:z*2^(256 - n)<V) (bM:V+2<(z+1)*2^(256 - n)):eT ⟨mk false z (-n),mk false (z+1) (-n)⟩ x n:=by
 have es:aK 256=aK n*aK (256 - n:Nat):=by rw[←k7];congr 1;omega
 rw[es]at h1 h2
 have p:=eV (-((256 - n:Nat):Int))
 have q:=p7 ((256 - n:Nat):Int)
 have pt:=eV ((256 - n:Nat):Int)
 have bR:aD z*aK (256 - n:Nat)<aD V:=by
  rw[←uS,←qO,qV];exact_mod_cast bE
 have cN:aD V+aD 2<(aD z+1)*aK (256 - n:Nat):=by
  have:aD V+aD 2=aD ((V+2:Nat):Int):=by rw[r9];rfl
  rw[this,←uS,←Qb,←r9,←qO,qV];exact_mod_cast bM
 have d1:aD z<x*aK n:=by
  refine Std.not_le.1 fun k=> ?_
  have:=cl (show 0≤aD z - x*aK n by grind) (show 0≤aK (256 - n:Nat)by grind)
  grind
 have d2:x*aK n<aD z+1:=by
  refine Std.not_le.1 fun k=> ?_
  have:=cl (show 0≤x*aK n - (aD z+1)by grind) (show 0≤aK (256 - n:Nat)by grind)
  grind
 have xr:aD ((z+1:Nat):Int)=aD z+1:=by rw[r9,Qb]
 refine⟨⟨qS ..,qS ..⟩,p8 (Int.le_refl _),p8 (Int.le_refl _),z,(z+1:Nat),QQ ..,QQ ..,by grind,d2,by grind,by grind⟩
theorem YC {x:R} {k:Int} {n:Nat} (h:x=aD k):eT ⟨mk (decide (k<0)) k.natAbs 0,mk (decide (k<0)) k.natAbs 0⟩ x n:=by
 have e:bo (mk (decide (k<0)) k.natAbs 0)=aD k:=by
  rw[QQ,P7]
  have:dU (decide (k<0)) k.natAbs=k:=by
   unfold dU
   by_cases h:k<0
   ·rw[decide_eq_true h,if_pos rfl];omega
   ·rw[decide_eq_false h,if_neg (by decide)];omega
  rw[this];grind
 have bc:aD k=aD (k*2^n)*aK (-n):=by
  have:=p7 (n:Int)
  rw[jQ,gH,show aD k*aK n*aK (-n)=aD k*(aK n*aK (-n))by grind,this];grind
 have c8:x*aK n=aD (k*2^n):=by rw[h,jQ,gH]
 have o:=CV
 refine⟨⟨qS ..,qS ..⟩,p8 (by omega),p8 (by omega),k*2^n,k*2^n,by rw[e];exact bc,by rw[e];exact bc,by rw[c8];grind,by rw[c8];grind,by rw[c8];grind,by rw[c8];grind⟩
theorem anB:an 1 3=1*2^(60 - 3):=by decide
theorem anC:an 1 4=1*2^(60 - 4):=by decide
theorem anD:an 3 2=3*2^(60 - 2):=by decide
theorem anE:an 1 2=1*2^(60 - 2):=by decide
theorem yu (a:Nat):eD false a=(pt a).c1:=rfl
theorem Co (a:Nat):eD true a=(pt a).dA:=rfl
theorem pow_one (z:bF):z.pow 1=z:=bF.one_mul z
theorem km:dR false (an 1 3) (1:Nat)=⟨⟨false,1,-1⟩,⟨false,1,0⟩⟩:=by
 have e:eD false (an 1 3)=au 0:=by
  rw[yu,anB,wN (by omega),pow_one];rfl
 have h:=(NT 0 (by omega)).1
 have:=XF (n:=1) (z:=1) h.1 h.2 (by omega) (by decide+kernel) (by decide+kernel)
 rw[←e]at this
 rw[Lk (hv _ _) (by have:=qa 1 (Q:=3) (by omega);omega) (by omega) this]
 decide+kernel
theorem Io:dR true (an 3 2) (9:Nat)=⟨⟨true,1,0⟩,⟨true,1,0⟩⟩:=by
 have e:eD true (an 3 2)=aD (-1):=by
  rw[Co,anD,wN (by omega)]
  have:aD (-1)= -1:=by rw[jD,fY]
  rw[this]
  simp only[bF.pow,un,bF.I,bF.one,bF.mul]
  grind
 rw[Lk (hv _ _) (by have:=qa 3 (Q:=2) (by omega);omega) (by omega) (YC e)]
 decide+kernel
theorem aqq:dR false (an 1 2) (5:Nat)=⟨⟨false,0,0⟩,⟨false,0,0⟩⟩:=by
 have e:eD false (an 1 2)=aD 0:=by
  rw[yu,anE,wN (by omega),pow_one];rfl
 rw[Lk (hv _ _) (by have:=qa 1 (Q:=2) (by omega);omega) (by omega) (YC e)]
 decide+kernel
theorem Vr:dR false (an 1 4) (8:Nat)=⟨⟨false,59,-6⟩,⟨false,237,-8⟩⟩:=by
 have e:eD false (an 1 4)=au 1:=by
  rw[yu,anC,wN (by omega),pow_one];rfl
 have h:=(NT 1 (by omega)).1
 have:=XF (n:=8) (z:=236) h.1 h.2 (by omega) (by decide+kernel) (by decide+kernel)
 rw[←e]at this
 rw[Lk (hv _ _) (by have:=qa 1 (Q:=4) (by omega);omega) (by omega) this]
 decide+kernel
def dQ (k:Nat) (cs:List ai) (s:St):Prop:=s.ag k= .box k 0∧s.az k=some ⟨false,false,.cells cs⟩
def hH:bC where
 pre:=fun ds=>ds=[]
 res:=fun _=> .bool true
theorem FX (Γ:Env) (j3:Γ.has 40 dm) (kQ:Γ.has 42 dB) (Cj:Γ.has 44 hF) (vT:Γ.has 46 fK) (vQ:Γ.has 76 dT) (ux:Γ.has 24 eS) (yn:Γ.has 19 gN) (rH:Γ.has 17 hr) (ds:List D) (h:hH.pre ds):bT Γ TY T0 ds fun d=>d=hH.res ds:=by
 cases h
 have cu:∀ds,hH.res ds= .bool true:=fun _=>rfl
 have ahI:ao 0=[]:=hk
 have JY:ao 3=[3]:=by decide+kernel
 have JZ:ao 5=[5]:=by decide+kernel
 have Og:ao 7=[7]:=by decide+kernel
 have V9:ao 59=[59]:=by decide+kernel
 have aer:ao 236=[236]:=by decide+kernel
 have HZ:ao 237=[237]:=by decide+kernel
 have v1:val [1]=1:=by decide+kernel
 have CA:val [3]=3:=by decide+kernel
 have arP:val [5]=5:=by decide+kernel
 have anF:val [236]=236:=by decide+kernel
 have anG:val [237]=237:=by decide+kernel
 have hN:∀(K:Int) (Q n:Nat),Q≤14→n≤160→dm.pre [.agg [.int .i64 K,.int .i64 Q],.int .i64 n]:=fun K Q n cK aQ=>⟨K,Q,n,rfl,by omega,by have:=qa K (Q:=Q) (by omega);omega,aQ⟩
 have aqr:dm.pre [.agg [.int .i64 1,.int .i64 3],.int .i64 1]:=hN 1 3 1 (by omega) (by omega)
 have aqs:dm.res [.agg [.int .i64 1,.int .i64 3],.int .i64 1]= .agg [.bool false,.ints .i64 [1],.int .i64 (-1),.bool false,.ints .i64 [1],.int .i64 0]:=by
  show aA (dR false (an 1 3) (1:Nat))=_
  rw[km];unfold aA aZ;rw[c7]
 have ps:dB.pre [.agg [.int .i64 3,.int .i64 2],.int .i64 9]:=⟨3,2,9,rfl,by omega,by have:=qa 3 (Q:=2) (by omega);omega,by omega⟩
 have rs:dB.res [.agg [.int .i64 3,.int .i64 2],.int .i64 9]= .agg [.bool true,.ints .i64 [1],.int .i64 0,.bool true,.ints .i64 [1],.int .i64 0]:=by
  show aA (dR true (an 3 2) (9:Nat))=_
  rw[Io];unfold aA aZ;rw[c7]
 have aqt:dm.pre [.agg [.int .i64 1,.int .i64 2],.int .i64 5]:=hN 1 2 5 (by omega) (by omega)
 have aqu:dm.res [.agg [.int .i64 1,.int .i64 2],.int .i64 5]= .agg [.bool false,.ints .i64 [],.int .i64 0,.bool false,.ints .i64 [],.int .i64 0]:=by
  show aA (dR false (an 1 2) (5:Nat))=_
  rw[aqq];unfold aA aZ;rw[ahI]
 have aqv:dm.pre [.agg [.int .i64 1,.int .i64 4],.int .i64 8]:=hN 1 4 8 (by omega) (by omega)
 have aqw:dm.res [.agg [.int .i64 1,.int .i64 4],.int .i64 8]= .agg [.bool false,.ints .i64 [59],.int .i64 (-6),.bool false,.ints .i64 [237],.int .i64 (-8)]:=by
  show aA (dR false (an 1 4) (8:Nat))=_
  rw[Vr];unfold aA aZ;rw[V9,HZ]
 have aqx:fK.pre [.int .i64 1]:=⟨1,rfl,by omega,by omega⟩
 have aqy:fK.res [.int .i64 1]= .agg [.bool false,.ints .i64 [1],.int .i64 0]:=by
  have:mk (decide ((1:Int)<0)) (Int.natAbs 1) 0=⟨false,1,0⟩:=by decide+kernel
  simp only[fK,this];unfold aI aZ;rw[c7]
 have aqz:fK.pre [.int .i64 (-1)]:=⟨-1,rfl,by omega,by omega⟩
 have aqA:fK.res [.int .i64 (-1)]= .agg [.bool true,.ints .i64 [1],.int .i64 0]:=by
  have:mk (decide ((-1:Int)<0)) (Int.natAbs (-1)) 0=⟨true,1,0⟩:=by decide+kernel
  simp only[fK,this];unfold aI aZ;rw[c7]
 have aqB:fK.pre [.int .i64 (-7)]:=⟨-7,rfl,by omega,by omega⟩
 have aqC:fK.res [.int .i64 (-7)]= .agg [.bool true,.ints .i64 [7],.int .i64 0]:=by
  have:mk (decide ((-7:Int)<0)) (Int.natAbs (-7)) 0=⟨true,7,0⟩:=by decide+kernel
  simp only[fK,this];unfold aI aZ;rw[Og]
 have pp:gN.pre [.agg [.bool true,.ints .i64 [1],.int .i64 0]]:=⟨⟨true,1,0⟩,by unfold aI aZ;rw[c7]⟩
 have arQ:gN.res [.agg [.bool true,.ints .i64 [1],.int .i64 0]]= .agg [.bool true,.ints .i64 [1],.int .i64 0,.bool true,.ints .i64 [1],.int .i64 0]:=by
  have e:(.agg [.bool true,.ints .i64 [1],.int .i64 0]:D)=aI ⟨true,1,0⟩:=by unfold aI aZ;rw[c7]
  have bc:eA (aI ⟨true,1,0⟩)=⟨true,1,0⟩:=cd ⟨true,1,0⟩
  rw[e];simp only[gN,bc];unfold aA xT aZ;rw[c7]
 have Ai:∀(b:Bool) (m:Nat) (e:Int),m % 2=1→bp m≤30→-100≤e→e≤100→bO ⟨b,m,e⟩:=fun b m e h1 h2 aq aE=>⟨⟨fun h=>by simp only at h;omega,fun _=>h1⟩,fun _=>⟨by show (-50000:Int)≤e;omega,by show e+(bp m:Int)≤50000;omega⟩⟩
 have b8:=Ai false 1 (-1) rfl (by decide+kernel) (by omega) (by omega)
 have cL:=Ai false 1 0 rfl (by decide+kernel) (by omega) (by omega)
 have r0:=Ai true 1 0 rfl (by decide+kernel) (by omega) (by omega)
 have JX:=Ai false 59 (-6) rfl (by decide+kernel) (by omega) (by omega)
 have arR:=Ai false 237 (-8) rfl (by decide+kernel) (by omega) (by omega)
 have arS:=Ai true 3 (-1) rfl (by decide+kernel) (by omega) (by omega)
 have ahJ:=Ai true 7 0 rfl (by decide+kernel) (by omega) (by omega)
 have arT:=Ai true 5 (-2) rfl (by decide+kernel) (by omega) (by omega)
 have aU:bO ⟨false,0,0⟩:=⟨⟨fun _=>⟨rfl,rfl⟩,fun h=>absurd rfl h⟩,fun h=>absurd rfl h⟩
 have Av:∀y:bP,hj y→hr.pre [aA y,aA y]∧hr.res [aA y,aA y]= .bool true:=fun y hy=>⟨⟨y,y,rfl,hy,hy⟩,by simp[hr]⟩
 obtain⟨dw,t1⟩:=Av ⟨⟨false,1,-1⟩,⟨false,1,0⟩⟩ ⟨b8,cL⟩
 obtain⟨eK,t2⟩:=Av ⟨⟨true,1,0⟩,⟨true,1,0⟩⟩ ⟨r0,r0⟩
 obtain⟨e9,t3⟩:=Av ⟨⟨false,0,0⟩,⟨false,0,0⟩⟩ ⟨aU,aU⟩
 obtain⟨oN,t4⟩:=Av ⟨⟨false,59,-6⟩,⟨false,237,-8⟩⟩ ⟨JX,arR⟩
 unfold aA aZ at dw t1 eK t2 e9 t3 oN t4
 simp only[c7,ahI,V9,HZ]at dw t1 eK t2 e9 t3 oN t4
 have ahK:∀y:a6,bO y→eS.pre [aI y,aI y]∧eS.res [aI y,aI y]= .bool true:=fun y hy=>⟨⟨y,y,rfl,hy,hy⟩,by simp[eS]⟩
 obtain⟨Al,t5⟩:=ahK ⟨true,3,-1⟩ arS
 obtain⟨Am,t6⟩:=ahK ⟨true,7,0⟩ ahJ
 unfold aI aZ at Al t5 Am t6
 simp only[JY,Og]at Al t5 Am t6
 have hh:dT.pre [.bool false,.ints .i64 [236],.int .i64 (-8)]:=⟨false,236,-8,by unfold aZ;rw[aer],by rw[aer];decide,by omega,by omega⟩
 have iR:dT.res [.bool false,.ints .i64 [236],.int .i64 (-8)]= .agg [.bool false,.ints .i64 [59],.int .i64 (-6)]:=by
  have:mk false 236 (-8)=⟨false,59,-6⟩:=by decide+kernel
  simp only[dT,anF,this];unfold aI aZ;rw[V9]
 have iX:dT.pre [.bool false,.ints .i64 [237],.int .i64 (-8)]:=⟨false,237,-8,by unfold aZ;rw[HZ],by rw[HZ];decide,by omega,by omega⟩
 have pT:dT.res [.bool false,.ints .i64 [237],.int .i64 (-8)]= .agg [.bool false,.ints .i64 [237],.int .i64 (-8)]:=by
  have:mk false 237 (-8)=⟨false,237,-8⟩:=by decide+kernel
  simp only[dT,anG,this];unfold aI aZ;rw[HZ]
 have we:dT.pre [.bool true,.ints .i64 [5],.int .i64 (-2)]:=⟨true,5,-2,by unfold aZ;rw[JZ],by rw[JZ];decide,by omega,by omega⟩
 have Ao:dT.res [.bool true,.ints .i64 [5],.int .i64 (-2)]= .agg [.bool true,.ints .i64 [5],.int .i64 (-2)]:=by
  have:mk true 5 (-2)=⟨true,5,-2⟩:=by decide+kernel
  simp only[dT,arP,this];unfold aI aZ;rw[JZ]
 have xx:dT.pre [.bool true,.ints .i64 [3],.int .i64 (-1)]:=⟨true,3,-1,by unfold aZ;rw[JY],by rw[JY];decide,by omega,by omega⟩
 have yE:dT.res [.bool true,.ints .i64 [3],.int .i64 (-1)]= .agg [.bool true,.ints .i64 [3],.int .i64 (-1)]:=by
  have:mk true 3 (-1)=⟨true,3,-1⟩:=by decide+kernel
  simp only[dT,CA,this];unfold aI aZ;rw[JY]
 have f1:hF.pre [.agg [.bool true,.ints .i64 [5],.int .i64 (-2)],.int .i64 1]:=⟨⟨true,5,-2⟩,1,by unfold aI aZ;rw[JZ],arT,by omega,by omega⟩
 have cC:hF.res [.agg [.bool true,.ints .i64 [5],.int .i64 (-2)],.int .i64 1]= .agg [.bool true,.ints .i64 [3],.int .i64 (-1)]:=by
  have e:(.agg [.bool true,.ints .i64 [5],.int .i64 (-2)]:D)=aI ⟨true,5,-2⟩:=by unfold aI aZ;rw[JZ]
  have bc:eA (aI ⟨true,5,-2⟩)=⟨true,5,-2⟩:=cd ⟨true,5,-2⟩
  have c8:g7 ⟨true,5,-2⟩ 1=⟨true,3,-1⟩:=by decide+kernel
  rw[e];simp only[hF,bc,c8];unfold aI aZ;rw[JY]
 have f2:hF.pre [.agg [.bool true,.ints .i64 [7],.int .i64 0],.int .i64 1]:=⟨⟨true,7,0⟩,1,by unfold aI aZ;rw[Og],ahJ,by omega,by omega⟩
 have c9:hF.res [.agg [.bool true,.ints .i64 [7],.int .i64 0],.int .i64 1]= .agg [.bool true,.ints .i64 [7],.int .i64 0]:=by
  have e:(.agg [.bool true,.ints .i64 [7],.int .i64 0]:D)=aI ⟨true,7,0⟩:=by unfold aI aZ;rw[Og]
  have bc:eA (aI ⟨true,7,0⟩)=⟨true,7,0⟩:=cd ⟨true,7,0⟩
  have c8:g7 ⟨true,7,0⟩ 1=⟨true,7,0⟩:=by decide+kernel
  rw[e];simp only[hF,bc,c8]
 rw[cu]
 rw[fU]
 unfold TY T0
 refine b3 (fun s=>True) ?_ ?_
 ·simp (maxSteps:=2000000) only[↓al,ak,↓reduceIte,reduceCtorEq,Nat.reduceEqDiff,Nat.reduceLeDiff,Nat.reduceSub,Nat.reduceAdd,Int.reduceToNat,Nat.reducePow,Int.reducePow,Int.reduceLE,Int.reduceLT,IntKind.bits]
 rintro s -
 refine b3 (fun s=>dQ 1 [.d (.bool false),.d (.ints .i64 [1]),.d (.int .i64 (-1)),.d (.bool false),.d (.ints .i64 [1]),.d (.int .i64 0)] s) ?_ ?_
 ·simp (maxSteps:=2000000) only[↓al,ak,↓reduceIte,reduceCtorEq,Nat.reduceEqDiff,Nat.reduceLeDiff,Nat.reduceSub,Nat.reduceAdd,Int.reduceToNat,Nat.reducePow,Int.reducePow,Int.reduceLE,Int.reduceLT,IntKind.bits,j3,aqr,aqs,dQ]
 rintro s ⟨h1,cy⟩
 refine b3 (fun s=>dQ 1 [.d (.bool false),.d (.ints .i64 [1]),.d (.int .i64 (-1)),.d (.bool false),.d (.ints .i64 [1]),.d (.int .i64 0)] s∧dQ 2 [.d (.bool true),.d (.ints .i64 [1]),.d (.int .i64 0),.d (.bool true),.d (.ints .i64 [1]),.d (.int .i64 0)] s) ?_ ?_
 ·simp (maxSteps:=2000000) only[↓al,ak,↓reduceIte,reduceCtorEq,Nat.reduceEqDiff,Nat.reduceLeDiff,Nat.reduceSub,Nat.reduceAdd,Int.reduceToNat,Nat.reducePow,Int.reducePow,Int.reduceLE,Int.reduceLT,IntKind.bits,h1,cy,kQ,ps,rs,dQ]
 clear h1 cy
 rintro s ⟨⟨h1,cy⟩,h2,aR⟩
 refine b3 (fun s=>dQ 1 [.d (.bool false),.d (.ints .i64 [1]),.d (.int .i64 (-1)),.d (.bool false),.d (.ints .i64 [1]),.d (.int .i64 0)] s∧dQ 2 [.d (.bool true),.d (.ints .i64 [1]),.d (.int .i64 0),.d (.bool true),.d (.ints .i64 [1]),.d (.int .i64 0)] s∧dQ 3 [.d (.bool false),.d (.ints .i64 []),.d (.int .i64 0),.d (.bool false),.d (.ints .i64 []),.d (.int .i64 0)] s) ?_ ?_
 ·simp (maxSteps:=2000000) only[↓al,ak,↓reduceIte,reduceCtorEq,Nat.reduceEqDiff,Nat.reduceLeDiff,Nat.reduceSub,Nat.reduceAdd,Int.reduceToNat,Nat.reducePow,Int.reducePow,Int.reduceLE,Int.reduceLT,IntKind.bits,h1,cy,h2,aR,j3,aqt,aqu,dQ]
 clear h1 cy h2 aR
 rintro s ⟨⟨h1,cy⟩,⟨h2,aR⟩,aq,aW⟩
 refine b3 (fun s=>dQ 1 [.d (.bool false),.d (.ints .i64 [1]),.d (.int .i64 (-1)),.d (.bool false),.d (.ints .i64 [1]),.d (.int .i64 0)] s∧dQ 2 [.d (.bool true),.d (.ints .i64 [1]),.d (.int .i64 0),.d (.bool true),.d (.ints .i64 [1]),.d (.int .i64 0)] s∧dQ 3 [.d (.bool false),.d (.ints .i64 []),.d (.int .i64 0),.d (.bool false),.d (.ints .i64 []),.d (.int .i64 0)] s∧dQ 4 [.d (.bool false),.d (.ints .i64 [59]),.d (.int .i64 (-6)),.d (.bool false),.d (.ints .i64 [237]),.d (.int .i64 (-8))] s) ?_ ?_
 ·simp (maxSteps:=2000000) only[↓al,ak,↓reduceIte,reduceCtorEq,Nat.reduceEqDiff,Nat.reduceLeDiff,Nat.reduceSub,Nat.reduceAdd,Int.reduceToNat,Nat.reducePow,Int.reducePow,Int.reduceLE,Int.reduceLT,IntKind.bits,h1,cy,h2,aR,aq,aW,j3,aqv,aqw,dQ]
 clear h1 cy h2 aR aq aW
 rintro s ⟨⟨h1,cy⟩,⟨h2,aR⟩,⟨aq,aW⟩,aE,aS⟩
 rw[Hf,uQ,wx (by rfl)]
 refine hs 7 (fun s=>s.ag 19= .d (.bool true)∧dQ 1 [.d (.bool false),.d (.ints .i64 [1]),.d (.int .i64 (-1)),.d (.bool false),.d (.ints .i64 [1]),.d (.int .i64 0)] s∧dQ 2 [.d (.bool true),.d (.ints .i64 [1]),.d (.int .i64 0),.d (.bool true),.d (.ints .i64 [1]),.d (.int .i64 0)] s∧dQ 3 [.d (.bool false),.d (.ints .i64 []),.d (.int .i64 0),.d (.bool false),.d (.ints .i64 []),.d (.int .i64 0)] s∧dQ 4 [.d (.bool false),.d (.ints .i64 [59]),.d (.int .i64 (-6)),.d (.bool false),.d (.ints .i64 [237]),.d (.int .i64 (-8))] s) ?_ ?_
 ·simp only[List.take_succ_cons,List.take_zero]
  simp (maxSteps:=2000000) only[↓al,ak,↓reduceIte,reduceCtorEq,Nat.reduceEqDiff,Nat.reduceLeDiff,Nat.reduceSub,Nat.reduceAdd,Int.reduceToNat,Nat.reducePow,Int.reducePow,Int.reduceLE,Int.reduceLT,IntKind.bits,h1,cy,h2,aR,aq,aW,aE,aS,dQ,vT,aqx,aqy,rH,dw,t1]
  first|done|((repeat' apply And.intro)<;>first|assumption|with_reducible rfl|omega|(simp only[aO];omega)|exact⟨_,rfl⟩|exact⟨_,_,_,rfl⟩|exact⟨_,_,_,_,_,_,rfl⟩)
 clear h1 cy h2 aR aq aW aE aS
 rintro s ⟨cf,⟨h1,cy⟩,⟨h2,aR⟩,⟨aq,aW⟩,aE,aS⟩
 simp only[List.drop_succ_cons,List.drop_zero]
 refine hs 6 (fun s=>s.ag 25= .d (.bool true)∧dQ 1 [.d (.bool false),.d (.ints .i64 [1]),.d (.int .i64 (-1)),.d (.bool false),.d (.ints .i64 [1]),.d (.int .i64 0)] s∧dQ 2 [.d (.bool true),.d (.ints .i64 [1]),.d (.int .i64 0),.d (.bool true),.d (.ints .i64 [1]),.d (.int .i64 0)] s∧dQ 3 [.d (.bool false),.d (.ints .i64 []),.d (.int .i64 0),.d (.bool false),.d (.ints .i64 []),.d (.int .i64 0)] s∧dQ 4 [.d (.bool false),.d (.ints .i64 [59]),.d (.int .i64 (-6)),.d (.bool false),.d (.ints .i64 [237]),.d (.int .i64 (-8))] s) ?_ ?_
 ·simp only[List.take_succ_cons,List.take_zero]
  simp (maxSteps:=2000000) only[↓al,ak,↓reduceIte,reduceCtorEq,Nat.reduceEqDiff,Nat.reduceLeDiff,Nat.reduceSub,Nat.reduceAdd,Int.reduceToNat,Nat.reducePow,Int.reducePow,Int.reduceLE,Int.reduceLT,IntKind.bits,h1,cy,h2,aR,aq,aW,aE,aS,dQ,cf,vT,aqz,aqA,yn,pp,arQ,rH,eK,t2]
  first|done|((repeat' apply And.intro)<;>first|assumption|with_reducible rfl|omega|(simp only[aO];omega)|exact⟨_,rfl⟩|exact⟨_,_,_,rfl⟩|exact⟨_,_,_,_,_,_,rfl⟩)
 clear h1 cy h2 aR aq aW aE aS
 rintro s ⟨cf,⟨h1,cy⟩,⟨h2,aR⟩,⟨aq,aW⟩,aE,aS⟩
 simp only[List.drop_succ_cons,List.drop_zero]
 refine hs 5 (fun s=>s.ag 30= .d (.bool true)∧dQ 1 [.d (.bool false),.d (.ints .i64 [1]),.d (.int .i64 (-1)),.d (.bool false),.d (.ints .i64 [1]),.d (.int .i64 0)] s∧dQ 2 [.d (.bool true),.d (.ints .i64 [1]),.d (.int .i64 0),.d (.bool true),.d (.ints .i64 [1]),.d (.int .i64 0)] s∧dQ 3 [.d (.bool false),.d (.ints .i64 []),.d (.int .i64 0),.d (.bool false),.d (.ints .i64 []),.d (.int .i64 0)] s∧dQ 4 [.d (.bool false),.d (.ints .i64 [59]),.d (.int .i64 (-6)),.d (.bool false),.d (.ints .i64 [237]),.d (.int .i64 (-8))] s) ?_ ?_
 ·simp only[List.take_succ_cons,List.take_zero]
  simp (maxSteps:=2000000) only[↓al,ak,↓reduceIte,reduceCtorEq,Nat.reduceEqDiff,Nat.reduceLeDiff,Nat.reduceSub,Nat.reduceAdd,Int.reduceToNat,Nat.reducePow,Int.reducePow,Int.reduceLE,Int.reduceLT,IntKind.bits,h1,cy,h2,aR,aq,aW,aE,aS,dQ,cf,rH,e9,t3]
  first|done|((repeat' apply And.intro)<;>first|assumption|with_reducible rfl|omega|(simp only[aO];omega)|exact⟨_,rfl⟩|exact⟨_,_,_,rfl⟩|exact⟨_,_,_,_,_,_,rfl⟩)
 clear h1 cy h2 aR aq aW aE aS
 rintro s ⟨cf,⟨h1,cy⟩,⟨h2,aR⟩,⟨aq,aW⟩,aE,aS⟩
 simp only[List.drop_succ_cons,List.drop_zero]
 refine hs 9 (fun s=>s.ag 39= .d (.bool true)∧dQ 1 [.d (.bool false),.d (.ints .i64 [1]),.d (.int .i64 (-1)),.d (.bool false),.d (.ints .i64 [1]),.d (.int .i64 0)] s∧dQ 2 [.d (.bool true),.d (.ints .i64 [1]),.d (.int .i64 0),.d (.bool true),.d (.ints .i64 [1]),.d (.int .i64 0)] s∧dQ 3 [.d (.bool false),.d (.ints .i64 []),.d (.int .i64 0),.d (.bool false),.d (.ints .i64 []),.d (.int .i64 0)] s∧dQ 4 [.d (.bool false),.d (.ints .i64 [59]),.d (.int .i64 (-6)),.d (.bool false),.d (.ints .i64 [237]),.d (.int .i64 (-8))] s) ?_ ?_
 ·simp only[List.take_succ_cons,List.take_zero]
  simp (maxSteps:=2000000) only[↓al,ak,↓reduceIte,reduceCtorEq,Nat.reduceEqDiff,Nat.reduceLeDiff,Nat.reduceSub,Nat.reduceAdd,Int.reduceToNat,Nat.reducePow,Int.reducePow,Int.reduceLE,Int.reduceLT,IntKind.bits,h1,cy,h2,aR,aq,aW,aE,aS,dQ,cf,vQ,hh,iR,iX,pT,rH,oN,t4]
  first|done|((repeat' apply And.intro)<;>first|assumption|with_reducible rfl|omega|(simp only[aO];omega)|exact⟨_,rfl⟩|exact⟨_,_,_,rfl⟩|exact⟨_,_,_,_,_,_,rfl⟩)
 clear h1 cy h2 aR aq aW aE aS
 rintro s ⟨cf,⟨h1,cy⟩,⟨h2,aR⟩,⟨aq,aW⟩,aE,aS⟩
 simp only[List.drop_succ_cons,List.drop_zero]
 simp (maxSteps:=2000000) only[↓al,ak,↓reduceIte,reduceCtorEq,Nat.reduceEqDiff,Nat.reduceLeDiff,Nat.reduceSub,Nat.reduceAdd,Int.reduceToNat,Nat.reducePow,Int.reducePow,Int.reduceLE,Int.reduceLT,IntKind.bits,cf,vQ,we,Ao,xx,yE,Cj,f1,cC,f2,c9,vT,aqB,aqC,ux,Al,t5,Am,t6]
 first|done|((repeat' apply And.intro)<;>first|assumption|with_reducible rfl|omega|(simp only[aO];omega)|exact⟨_,rfl⟩|exact⟨_,_,_,rfl⟩|exact⟨_,_,_,_,_,_,rfl⟩)
end RV.Dr
namespace RV.Dr
open Go RV
set_option linter.unusedSimpArgs false
set_option linter.unusedVariables false
set_option maxRecDepth 100000
set_option maxHeartbeats 8000000
theorem alh {b:Bool} {a n:Nat} (h:a<1152921504606846976) (a7:a2 a≤14) (aQ:n≤160):∀(k:Nat) (w:Int),0≤w→w+64*k≤800→(iE b a n k w).win (-20000) 201:=by
 have key:∀w:Int,0≤w→w≤800→(fg (k1 b (eb a w)) n).win (-20000) 201:=fun w h0 h1=>by
  have hw:=C3 (A3 h a7) h0 h1
  have aj:(k1 b (eb a w)).win (-20000) 200:=by
   cases b
   ·exact hw.1
   ·exact hw.2
  exact⟨yS aj.1 (by omega) (by omega) (by omega),iJ (yS (iJ aj.2) (by omega) (by omega) (by omega))⟩
 intro k
 induction k with
 |zero=>intro w h0 h1;exact key w h0 (by omega)
 |succ k cM=>
  intro w h0 h1
  unfold iE
  split
  ·exact key w h0 (by omega)
  ·exact cM (w+64) (by omega) (by omega)
theorem Z4 {b:Bool} {a n:Nat} (h:a<1152921504606846976) (a7:a2 a≤14) (aQ:n≤160):(dR b a n).win (-20000) 201:=alh h a7 aQ 4 _ (by omega) (by omega)
theorem AV {K Q:Int} (h:fZ [.int .i64 K,.int .i64 Q]=true):∃q:Nat,Q=q∧q≤14∧aO K∧-1099511627776≤K∧K≤1099511627776:=by
 simp only[fZ,Bool.and_eq_true,decide_eq_true_eq]at h
 refine⟨Q.toNat,by omega,by omega,?_,h.1.2.2.1,h.1.2.2.2⟩
 simp only[aO];omega
def Gg:bC where
 pre:=fun ds=>∃(K Q n:Int) (b:Bool) (xs:List Int) (e:Int),ds=[.agg [.int .i64 K,.int .i64 Q],.int .u8 n,.agg [.bool b,.ints .i64 xs,.int .i64 e]]∧0≤n∧n<256
 res:=fun _=> .bool true
theorem Aq (Γ:Env) (vU:Γ.has 37 hH) (kq:Γ.has 38 gh) (Jz:Γ.has 14 s3) (vV:Γ.has 39 hG) (j3:Γ.has 40 dm) (aqD:Γ.has 41 ys) (kQ:Γ.has 42 dB) (aqE:Γ.has 43 yt) (rH:Γ.has 17 hr) (Cj:Γ.has 44 hF) (NO:Γ.has 45 pN) (ux:Γ.has 24 eS) (ds:List D) (h:Gg.pre ds):bT Γ uE F3 ds fun d=>d=Gg.res ds:=by
 obtain⟨K,Q,n,b,xs,e,rfl,dS,jm⟩:=h
 have cu:∀ds,Gg.res ds= .bool true:=fun _=>rfl
 have wk:hH.pre []:=rfl
 have wm:hH.res []= .bool true:=rfl
 have im:gh.pre [.recs 2 [[.int .i64 K,.int .i64 Q]]]:=⟨_,rfl,fun r ar=>by
  simp only[List.mem_cons,List.not_mem_nil,or_false]at ar
  exact⟨K,Q,ar⟩,by simp⟩
 have rg:gh.res [.recs 2 [[.int .i64 K,.int .i64 Q]]]= .bool (fZ [.int .i64 K,.int .i64 Q]):=by
  simp only[gh,List.all_cons,List.all_nil,Bool.and_true]
 have Cp:s3.pre [.recs 3 [[.bool b,.ints .i64 xs,.int .i64 e]]]:=⟨_,rfl,fun r ar=>by
  simp only[List.mem_cons,List.not_mem_nil,or_false]at ar
  exact⟨b,xs,e,ar⟩,by simp⟩
 have Cq:s3.res [.recs 3 [[.bool b,.ints .i64 xs,.int .i64 e]]]= .bool (jT b xs e):=by
  simp only[s3,List.all_cons,List.all_nil,Bool.and_true,y2]
 rw[cu]
 rw[fU]
 unfold uE F3
 refine b3 (fun s=>s.ag 1= .d (.int .u8 n)∧dQ 3 [.d (.int .i64 K),.d (.int .i64 Q)] s∧dQ 5 [.d (.bool b),.d (.ints .i64 xs),.d (.int .i64 e)] s) ?_ ?_
 ·simp (maxSteps:=2000000) only[↓al,ak,↓reduceIte,reduceCtorEq,Nat.reduceEqDiff,Nat.reduceLeDiff,Nat.reduceSub,Nat.reduceAdd,Int.reduceToNat,Nat.reducePow,Int.reducePow,Int.reduceLE,Int.reduceLT,IntKind.bits,dQ]
 rintro s ⟨h1,⟨aq,aW⟩,aF,bm⟩
 refine b3 (fun s=>s.ag 7= .d (.bool true)∧s.ag 1= .d (.int .u8 n)∧dQ 3 [.d (.int .i64 K),.d (.int .i64 Q)] s∧dQ 5 [.d (.bool b),.d (.ints .i64 xs),.d (.int .i64 e)] s) ?_ ?_
 ·simp (maxSteps:=2000000) only[↓al,ak,↓reduceIte,reduceCtorEq,Nat.reduceEqDiff,Nat.reduceLeDiff,Nat.reduceSub,Nat.reduceAdd,Int.reduceToNat,Nat.reducePow,Int.reducePow,Int.reduceLE,Int.reduceLT,IntKind.bits,h1,aq,aW,aF,bm,dQ,vU,wk,wm]
 clear h1 aq aW aF bm
 rintro s ⟨aM,h1,⟨aq,aW⟩,aF,bm⟩
 refine b3 (fun s=>(fZ [.int .i64 K,.int .i64 Q]=true∧jT b xs e=true)∧s.ag 7= .d (.bool true)∧s.ag 1= .d (.int .u8 n)∧dQ 3 [.d (.int .i64 K),.d (.int .i64 Q)] s∧dQ 5 [.d (.bool b),.d (.ints .i64 xs),.d (.int .i64 e)] s) ?_ ?_
 ·generalize fZ [.int .i64 K,.int .i64 Q]=t at*
  generalize jT b xs e=g at*
  cases t with
  |false=>simp (maxSteps:=2000000) only[↓al,ak,↓reduceIte,reduceCtorEq,Nat.reduceEqDiff,Nat.reduceLeDiff,Nat.reduceSub,Nat.reduceAdd,Int.reduceToNat,Nat.reducePow,Int.reducePow,Int.reduceLE,Int.reduceLT,IntKind.bits,aM,h1,aq,aW,aF,bm,dQ,kq,im,rg,Bool.not_false]
  |true=>
   cases g with
   |false=>simp (maxSteps:=2000000) only[↓al,ak,↓reduceIte,reduceCtorEq,Nat.reduceEqDiff,Nat.reduceLeDiff,Nat.reduceSub,Nat.reduceAdd,Int.reduceToNat,Nat.reducePow,Int.reducePow,Int.reduceLE,Int.reduceLT,IntKind.bits,aM,h1,aq,aW,aF,bm,dQ,kq,im,rg,Jz,Cp,Cq,Bool.not_false,Bool.not_true]
   |true=>simp (maxSteps:=2000000) only[↓al,ak,↓reduceIte,reduceCtorEq,Nat.reduceEqDiff,Nat.reduceLeDiff,Nat.reduceSub,Nat.reduceAdd,Int.reduceToNat,Nat.reducePow,Int.reducePow,Int.reduceLE,Int.reduceLT,IntKind.bits,aM,h1,aq,aW,aF,bm,dQ,kq,im,rg,Jz,Cp,Cq,Bool.not_true]
 clear aM h1 aq aW aF bm im rg Cp Cq
 rintro s ⟨⟨ah,bh⟩,aM,h1,⟨aq,aW⟩,aF,bm⟩
 obtain⟨q,rfl,a7,cj,-⟩:=AV ah
 obtain⟨x,rfl,rfl,rfl,ahL⟩:=ZR bh
 obtain⟨k,af⟩:∃k:Nat,n % 70+1=(k:Int):=⟨(n % 70+1).toNat,by omega⟩
 have tc:hG.pre [.int .u8 n]:=⟨n,rfl,dS,jm⟩
 have wi:hG.res [.int .u8 n]= .int .i64 k:=by rw[←af];rfl
 have cI:=hv K q
 have FY:a2 (an K q)≤14:=by have:=qa K (Q:=q) (by omega);omega
 refine b3 (fun s=>s.ag 8= .d (.int .i64 k)∧s.ag 7= .d (.bool true)∧dQ 3 [.d (.int .i64 K),.d (.int .i64 q)] s∧dQ 5 [.d (.bool x.neg),.d (.ints .i64 (ao x.m)),.d (.int .i64 x.e)] s) ?_ ?_
 ·simp (maxSteps:=2000000) only[↓al,ak,↓reduceIte,reduceCtorEq,Nat.reduceEqDiff,Nat.reduceLeDiff,Nat.reduceSub,Nat.reduceAdd,Int.reduceToNat,Nat.reducePow,Int.reducePow,Int.reduceLE,Int.reduceLT,IntKind.bits,aM,h1,aq,aW,aF,bm,dQ,vV,tc,wi]
 clear aM h1 aq aW aF bm tc wi
 rintro s ⟨aY,aM,⟨aq,aW⟩,aF,bm⟩
 have wd:bO x:=win.up ahL (by omega) (by omega)
 have bR:dm.pre [.agg [.int .i64 K,.int .i64 q],.int .i64 k]:=⟨K,q,k,rfl,by omega,FY,by omega⟩
 have cN:ys.pre [.agg [.int .i64 K,.int .i64 q],.int .i64 k]:=⟨K,q,k,rfl,by omega,cj,FY,by omega⟩
 have fL:dB.pre [.agg [.int .i64 K,.int .i64 q],.int .i64 k]:=⟨K,q,k,rfl,by omega,FY,by omega⟩
 have Gd:yt.pre [.agg [.int .i64 K,.int .i64 q],.int .i64 k]:=⟨K,q,k,rfl,by omega,cj,FY,by omega⟩
 obtain⟨y,hy⟩:∃y,y=dR false (an K q) k:=⟨_,rfl⟩
 obtain⟨z,br⟩:∃z,z=dR true (an K q) k:=⟨_,rfl⟩
 have d1:dm.res [.agg [.int .i64 K,.int .i64 q],.int .i64 k]=aA y:=by simp only[dm,Int.toNat_natCast,hy]
 have d2:ys.res [.agg [.int .i64 K,.int .i64 q],.int .i64 k]=aA y:=by simp only[ys,Int.toNat_natCast,hy]
 have d3:dB.res [.agg [.int .i64 K,.int .i64 q],.int .i64 k]=aA z:=by simp only[dB,Int.toNat_natCast,br]
 have d4:yt.res [.agg [.int .i64 K,.int .i64 q],.int .i64 k]=aA z:=by simp only[yt,Int.toNat_natCast,br]
 have ahM:hj y:=hy▸gv (Z4 cI FY (by omega)) (by omega) (by omega)
 have ahN:hj z:=br▸gv (Z4 cI FY (by omega)) (by omega) (by omega)
 have Av:∀y:bP,hj y→hr.pre [aA y,aA y]∧hr.res [aA y,aA y]= .bool true:=fun y hy=>⟨⟨y,y,rfl,hy,hy⟩,by simp[hr]⟩
 obtain⟨dw,t1⟩:=Av y ahM
 obtain⟨eK,t2⟩:=Av z ahN
 have f1:hF.pre [aI x,.int .i64 k]:=⟨x,k,rfl,wd,by omega,by omega⟩
 have f2:pN.pre [aI x,.int .i64 k]:=⟨x,k,rfl,wd,by omega,by omega⟩
 obtain⟨u,hu⟩:∃u,u=g7 x k:=⟨_,rfl⟩
 have cC:hF.res [aI x,.int .i64 k]=aI u:=by simp only[hF,aI,aZ,cd,hu]
 have c9:pN.res [aI x,.int .i64 k]=aI u:=by simp only[pN,aI,aZ,cd,hu]
 have uG:bO u:=hu▸win.up (yS ahL (n:=k) (by omega) (by omega) (by omega)) (by omega) (by omega)
 have e9:eS.pre [aI u,aI u]:=⟨u,u,rfl,uG,uG⟩
 have t3:eS.res [aI u,aI u]= .bool true:=by simp[eS]
 clear hy br hu Av ahM ahN uG
 unfold aA aZ at d1 d2 d3 d4 dw t1 eK t2
 unfold aI aZ at f1 f2 cC c9 e9 t3
 rw[Hf,uQ,wx (by rfl)]
 refine hs 11 (fun s=>s.ag 33= .d (.bool true)∧s.ag 8= .d (.int .i64 k)∧dQ 3 [.d (.int .i64 K),.d (.int .i64 q)] s∧dQ 5 [.d (.bool x.neg),.d (.ints .i64 (ao x.m)),.d (.int .i64 x.e)] s) ?_ ?_
 ·simp only[List.take_succ_cons,List.take_zero]
  simp (maxSteps:=2000000) only[↓al,ak,↓reduceIte,reduceCtorEq,Nat.reduceEqDiff,Nat.reduceLeDiff,Nat.reduceSub,Nat.reduceAdd,Int.reduceToNat,Nat.reducePow,Int.reducePow,Int.reduceLE,Int.reduceLT,IntKind.bits,aY,aM,aq,aW,aF,bm,dQ,j3,bR,d1,aqD,cN,d2,rH,dw,t1]
  first|done|((repeat' apply And.intro)<;>first|assumption|with_reducible rfl|omega|(simp only[aO];omega)|exact⟨_,rfl⟩|exact⟨_,_,_,rfl⟩|exact⟨_,_,_,_,_,_,rfl⟩)
 clear aY aM aq aW aF bm
 rintro s ⟨cf,aY,⟨aq,aW⟩,aF,bm⟩
 simp only[List.drop_succ_cons,List.drop_zero]
 refine hs 9 (fun s=>s.ag 42= .d (.bool true)∧s.ag 8= .d (.int .i64 k)∧dQ 5 [.d (.bool x.neg),.d (.ints .i64 (ao x.m)),.d (.int .i64 x.e)] s) ?_ ?_
 ·simp only[List.take_succ_cons,List.take_zero]
  simp (maxSteps:=2000000) only[↓al,ak,↓reduceIte,reduceCtorEq,Nat.reduceEqDiff,Nat.reduceLeDiff,Nat.reduceSub,Nat.reduceAdd,Int.reduceToNat,Nat.reducePow,Int.reducePow,Int.reduceLE,Int.reduceLT,IntKind.bits,cf,aY,aq,aW,aF,bm,dQ,kQ,fL,d3,aqE,Gd,d4,rH,eK,t2]
  first|done|((repeat' apply And.intro)<;>first|assumption|with_reducible rfl|omega|(simp only[aO];omega)|exact⟨_,rfl⟩|exact⟨_,_,_,rfl⟩|exact⟨_,_,_,_,_,_,rfl⟩)
 clear aY aq aW aF bm cf
 rintro s ⟨cf,aY,aF,bm⟩
 simp only[List.drop_succ_cons,List.drop_zero]
 simp (maxSteps:=2000000) only[↓al,ak,↓reduceIte,reduceCtorEq,Nat.reduceEqDiff,Nat.reduceLeDiff,Nat.reduceSub,Nat.reduceAdd,Int.reduceToNat,Nat.reducePow,Int.reducePow,Int.reduceLE,Int.reduceLT,IntKind.bits,cf,aY,aF,bm,Cj,f1,cC,NO,f2,c9,ux,e9,t3]
 first|done|((repeat' apply And.intro)<;>first|assumption|with_reducible rfl|omega|(simp only[aO];omega)|exact⟨_,rfl⟩|exact⟨_,_,_,rfl⟩|exact⟨_,_,_,_,_,_,rfl⟩)
end RV.Dr
namespace RV
open Go Go.RowKit Go.ChangeShapes
section
variable {H:Type} {enc:TypeId×Value→H} {P:Program} {w:World} {base:Nat} {spare:Nat→Bool} {held:Bool} {fuel:Nat} {cs:List Value} {x:DataW H×List MemPlace}
theorem XZ {m:Mem} {k:IntKind} {b:Nat} :∀{xs:List Int} {o:Nat},(∀i,i<xs.length→m (cellAt b (o+i))=some (.int k (xs.getD i 0)))→gp m k b o xs
 |[],_,_=>trivial
 |x::xs,o,h=>by
  refine⟨by simpa using h 0 (by simp),XZ fun i hi=> ?_⟩
  have:=h (i+1) (by simpa using hi)
  rw[show o+1+i=o+(i+1)by omega,this]
  rfl
def fieldsOf (P:Program) (t:TypeId):Option (List (TypeId×Nat)):=match P.underlying t with
 |some (.struct fs)=>some (fs.toList.map fun f=>(f.type,f.offset))
 |_=>none
theorem XG {t:TypeId} {l:List (TypeId×Nat)} (hf:fieldsOf P t=some l) (h:DataW.trod enc P w base spare held fuel t cs=some x):
 cs.length=P.cellsOf t∧∃n,∀y∈l,∃z,DataW.trod enc P w base spare held n y.1 ((cs.drop y.2).take (P.cellsOf y.1))=some z:=by
 unfold fieldsOf at hf
 split at hf
 ·rename_i fs hu
  simp only[Option.some.injEq]at hf
  subst hf
  obtain⟨xs,n,_,_,aJ,aj,hi⟩:=DataW.trod_struct hu h
  refine⟨aJ,n,fun y hy=> ?_⟩
  obtain⟨f,aqF,rfl⟩:=List.mem_map.1 hy
  obtain⟨i,vJ,VH⟩:=List.mem_iff_getElem.1 aqF
  have aqG:fs[i]? =some f:=by rw[←Array.getElem?_toList,List.getElem?_eq_getElem vJ,VH]
  have:=hi i f aqG
  have bw:i<xs.length:=by rw[aj,←Array.length_toList];exact vJ
  rw[List.getElem?_eq_getElem bw]at this
  exact⟨_,this⟩
 ·cases hf
theorem ajP {t e:TypeId} (ah:P.underlying t=some (.slice e)) (he:P.underlying e=some (.int .i64)) (au:P.cellsOf e=1) (h:DataW.trod enc P w base spare held fuel t cs=some x):
 ∃xs v,cs=[v]∧bA w.cell? (.ints .i64 xs) v:=by
 rcases open_ints ah he au h with ⟨rfl,_⟩|⟨a,len,cap,zs,rfl,_,aJ,_,br,_,fB,_⟩
 ·exact⟨[],_,rfl,by simp only[bA];exact⟨none,0,rfl,Nat.le_refl _,.inl trivial⟩⟩
 ·have SR:len≤zs.length:=by rw[br];split<;>omega
  refine⟨zs.take len,_,rfl,?_⟩
  simp only[bA]
  have a4:(zs.take len).length=len:=by rw[List.length_take];omega
  refine⟨some a,cap,by rw[a4],by omega,?_⟩
  by_cases h0:len=0
  ·left;rw[h0];rfl
  ·right
   have pG:a.spot=none:=by
    have:=fB 0 (by omega)
    simp only[Addr.add,if_true]at this
    unfold World.cell? at this
    split at this
    ·split at this
     ·cases this
     ·rename_i aG;cases pG:a.spot with
      |none=>rfl
      |some s=>rw[pG]at aG;simp at aG
    ·cases this
   refine⟨a.block,a.off,by cases a;simp only at pG;subst pG;rfl,XZ fun i hi=> ?_⟩
   rw[a4]at hi
   have:=fB i (by omega)
   have a9:a.add i=cellAt a.block (a.off+i):=by
    unfold Addr.add cellAt
    split
    ·rename_i h;subst h;cases a;simp only at pG;subst pG;rfl
    ·rfl
   rw[a9]at this
   rw[this,List.getD_eq_getElem?_getD,List.getD_eq_getElem?_getD,List.getElem?_take]
   simp[hi]
theorem adj {t Aw dv wo e:TypeId} (hf:fieldsOf P t=some [(Aw,0),(dv,1),(wo,2)]) (aw:P.underlying Aw=some .bool) (aG:P.underlying dv=some (.slice e)) (he:P.underlying e=some (.int .i64)) (hi:P.underlying wo=some (.int .i64))
 (kW:P.cellsOf Aw=1) (cs':P.cellsOf dv=1) (ci:P.cellsOf wo=1) (ce:P.cellsOf e=1) (pW:P.cellsOf t=3) (h:DataW.trod enc P w base spare held fuel t cs=some x):
 ∃(b:Bool) (xs:List Int) (z:Int),bV w.cell? [.bool b,.ints .i64 xs,.int .i64 z] cs:=by
 obtain⟨aJ,n,gY⟩:=XG hf h
 rw[pW]at aJ
 match cs,aJ with
 |[e8,bR,cN],_=>
  obtain⟨Gf,h0⟩:=gY (Aw,0) (by simp)
  obtain⟨dg,h1⟩:=gY (dv,1) (by simp)
  obtain⟨dP,h2⟩:=gY (wo,2) (by simp)
  simp only[kW,cs',ci,List.drop_zero,List.drop_succ_cons,List.take_succ_cons,List.take_zero]at h0 h1 h2
  obtain⟨b,cm,_⟩:=DataW.trod_bool aw h0
  obtain⟨xs,v,a4,aC⟩:=ajP aG he ce h1
  obtain⟨z,bc,_⟩:=DataW.trod_int hi h2
  simp only[List.cons.injEq,and_true]at cm a4 bc
  subst cm;subst a4;subst bc
  exact⟨b,xs,z,by simp only[bV];exact⟨_,_,rfl,by simp only[bA],_,_,rfl,aC,_,_,rfl,by simp only[bA],rfl⟩⟩
theorem Bh {t wo:TypeId} (hf:fieldsOf P t=some [(wo,0),(wo,1)]) (hi:P.underlying wo=some (.int .i64)) (ci:P.cellsOf wo=1) (pW:P.cellsOf t=2) (h:DataW.trod enc P w base spare held fuel t cs=some x):
 ∃y z:Int,bV w.cell? [.int .i64 y,.int .i64 z] cs:=by
 obtain⟨aJ,n,gY⟩:=XG hf h
 rw[pW]at aJ
 match cs,aJ with
 |[e8,bR],_=>
  obtain⟨Gf,h0⟩:=gY (wo,0) (by simp)
  obtain⟨dg,h1⟩:=gY (wo,1) (by simp)
  simp only[ci,List.drop_zero,List.drop_succ_cons,List.take_succ_cons,List.take_zero]at h0 h1
  obtain⟨y,cm,_⟩:=DataW.trod_int hi h0
  obtain⟨z,a4,_⟩:=DataW.trod_int hi h1
  simp only[List.cons.injEq,and_true]at cm a4
  subst cm;subst a4
  exact⟨y,z,by simp only[bV];exact⟨_,_,rfl,by simp only[bA],_,_,rfl,by simp only[bA],rfl⟩⟩
theorem xN {t:TypeId} {l:List (TypeId×Nat)} (hf:fieldsOf P t=some l) {v:Value} (aC:Value.okWide P w .any base t v):∃arr,v= .agg arr∧v.cells=arr:=by
 unfold fieldsOf at hf
 unfold Value.okWide at aC
 split at hf
 ·rename_i fs hu
  rw[hu]at aC
  obtain⟨arr,rfl,_⟩:=aC
  exact⟨arr,rfl,rfl⟩
 ·cases hf
theorem CL {t e:TypeId} {n:Nat} {k:IntKind} (ah:P.underlying t=some (.array n e)) (he:P.underlying e=some (.int k)) (ce:P.cellsOf e=1) {xs:List Int} {p:List MemPlace} (aj:xs.length=n)
 (h:DataW.trod enc P w base spare held fuel t cs=some (.agg (xs.map fun z=> .lit (.int k z)),p)):∀i,i<n→cs[i]? =some (.int k (xs.getD i 0)):=by
 obtain⟨aB,m,_,agP,_,asW,hi⟩:=DataW.trod_array ah h
 simp only[Prod.mk.injEq,DataW.agg.injEq]at agP
 intro i ig
 have h1:=hi i ig
 rw[ce,Nat.mul_one,List.getElem?_eq_getElem (show i<aB.length by omega)]at h1
 obtain⟨z,a4,bc,_⟩:=DataW.trod_int he h1
 have aq:(xs.map fun z=>(DataW.lit (.int k z):DataW H))[i]? =(aB.map (·.1))[i]? :=by rw[agP.1]
 rw[List.getElem?_map,List.getElem?_map,List.getElem?_eq_getElem (show i<xs.length by omega),List.getElem?_eq_getElem (show i<aB.length by omega)]at aq
 simp only[Option.map_some,Option.some.injEq]at aq
 rw[bc]at aq
 simp only[DataW.lit.injEq,Lit.int.injEq,true_and]at aq
 rw[List.getD_eq_getElem?_getD,List.getElem?_eq_getElem (show i<xs.length by omega),Option.getD_some,aq]
 have aE:=congrArg (fun l:List Value=>l[0]?) a4
 simp only[List.getElem?_take,List.getElem?_drop,List.getElem?_cons_zero]at aE
 simpa using aE
end
end RV
namespace RV.Dr
open RV RR
set_option linter.unusedSimpArgs false
set_option linter.unusedVariables false
set_option maxRecDepth 100000
theorem eT.pD {I:bP} {x:R} {n:Nat} (h:eT I x n):bo I.lo≤x∧x≤bo I.hi:=by
 obtain⟨_,_,_,z,w,h1,h2,aq,aE,aF,aN⟩:=h
 have p:=eV (-(n:Int))
 have q:=p7 (n:Int)
 have bE:=cl (show 0≤x*aK n - aD z by grind) (show 0≤aK (-n)by grind)
 have bM:=cl (show 0≤aD w - x*aK n by grind) (show 0≤aK (-n)by grind)
 have a4:(x*aK n - aD z)*aK (-n)=x*(aK n*aK (-n)) - aD z*aK (-n):=by grind
 have bc:(aD w - x*aK n)*aK (-n)=aD w*aK (-n) - x*(aK n*aK (-n)):=by grind
 rw[a4,q]at bE
 rw[bc,q]at bM
 rw[h1,h2]
 constructor<;>grind
theorem amj {x:R} {n:Nat} {z w:Int} (aj: -1≤x∧x≤1) (aq:aD z≤x*aK n) (aE:x*aK n<aD z+1) (aF:x*aK n≤aD w) (aN:aD w<x*aK n+1): -(2^n)≤z∧w≤2^n:=by
 have p:=eV (n:Int)
 have a:=cl (show 0≤x+1 by grind) (show 0≤aK n by grind)
 have b:=cl (show 0≤1 - x by grind) (show 0≤aK n by grind)
 have c:aD (-(2^n))<aD z+1:=by rw[jD,gH];grind
 have d:aD w<aD (2^n)+1:=by rw[gH];grind
 rw[←fY,←gW,qV]at c d
 omega
theorem ali {d:a6} {n:Nat} {z:Int} (l:fN (-n) d) (h:bo d=aD z*aK (-n)):d.V (-n)=z:=by
 rw[pC l]at h
 have a:aD (d.V (-n))*aK (-n)*aK n=aD z*aK (-n)*aK n:=by rw[h]
 have q:=p7 (n:Int)
 rw[show aD (d.V (-n))*aK (-n)*aK n=aD (d.V (-n))*(aK n*aK (-n))by grind,show aD z*aK (-n)*aK n=aD z*(aK n*aK (-n))by grind,q]at a
 have b:aD (d.V (-n))≤aD z:=by grind
 have c:aD z≤aD (d.V (-n)):=by grind
 rw[eB]at b c
 omega
theorem eT.ends {I:bP} {x:R} {n:Nat} (h:eT I x n) (aj: -1≤x∧x≤1):I.win (-n) 2∧ej I.lo I.hi≤0∧-1≤bo I.lo∧bo I.hi≤1:=by
 have aJ:=h.pD
 obtain⟨ok,c7,g3,z,w,h1,h2,aq,aE,aF,aN⟩:=h
 have br:=amj aj aq aE aF aN
 have aqH:z≤2^n:=by
  have:aD z≤aD w:=by grind
  rw[eB]at this;omega
 have gg: -(2^n)≤w:=by
  have:aD z≤aD w:=by grind
  rw[eB]at this;omega
 have key:∀{d:a6} {t:Int},d.ok→fN (-n) d→bo d=aD t*aK (-n)→-(2^n)≤t→t≤2^n→d.win (-n) 2:=fun {d t} ok l e a b=>by
  refine Py ok l (by omega) ?_
  rw[ali l e]
  have bc:(2 - -(n:Int)).toNat=n+2:=by omega
  rw[bc,Nat.pow_add]
  have c:((2^n:Nat):Int)=2^n:=Int.natCast_pow 2 n
  have:=Nat.two_pow_pos n
  omega
 have q:=p7 (n:Int)
 have p:=eV (-(n:Int))
 refine⟨⟨key ok.1 c7 h1 br.1 aqH,key ok.2 g3 h2 gg br.2⟩,qc.2 (by grind),?_,?_⟩
 ·have a:aD (-(2^n))≤aD z:=eB.2 br.1
  rw[jD,gH]at a
  have:=cl (show 0≤aD z+aK n by grind) (show 0≤aK (-n)by grind)
  rw[show (aD z+aK n)*aK (-n)=aD z*aK (-n)+aK n*aK (-n)by grind,q]at this
  rw[h1];grind
 ·have a:aD w≤aD (2^n):=eB.2 br.2
  rw[gH]at a
  have:=cl (show 0≤aK n - aD w by grind) (show 0≤aK (-n)by grind)
  rw[show (aK n - aD w)*aK (-n)=aK n*aK (-n) - aD w*aK (-n)by grind,q]at this
  rw[h2];grind
theorem pj (b:Bool) (a:Nat): -1≤eD b a∧eD b a≤1:=by
 have:=GU (Hl a)
 cases b
 ·exact this.1
 ·exact this.2
theorem Dl:bo d1=1:=by have:=Bg;unfold ff i1 at this;grind
theorem adk (e:Int):bo (hP e)=aK e:=by
 rw[pC (E:=e) (fun _=>Int.le_refl _)]
 have:(hP e).V e=1:=by unfold a6.V hP dU;rw[Int.sub_self];rfl
 rw[this,fY];grind
theorem eT.wide {I:bP} {x:R} {n:Nat} (h:eT I x n) (aQ:n≤160) (g:yr x):qb I=hP (-n):=by
 obtain⟨ok,c7,g3,z,w,h1,h2,aq,aE,aF,aN⟩:=h
 have V2:=eV (-49)
 have cC:=g n aQ z
 have c9:=g n aQ w
 have e:w=z+1:=by
  have a:aD z<aD w:=by grind
  have b:aD w<aD z+1+1:=by grind
  rw[qV]at a
  rw[←fY,←gW,←gW,qV]at b
  omega
 refine Hp (Lb ok.2 (CT ok.1)) (VV (-n)▸qS ..) ?_
 rw[adk]
 unfold qb
 rw[y7,uR,h1,h2,e,gW,fY]
 grind
theorem eT.adl {I:bP} {x:R} {n:Nat} {k:Int} (h:eT I x n) (e:x=aD k):I.lo=I.hi∧bo I.lo=x:=by
 have aJ:=h.pD
 obtain⟨ok,c7,g3,z,w,h1,h2,aq,aE,aF,aN⟩:=h
 have c8:x*aK n=aD (k*2^n):=by rw[e,jQ,gH]
 rw[c8]at aq aE aF aN
 rw[eB]at aq aF
 rw[←fY,←gW,qV]at aE aN
 have xr:z=w:=by omega
 have Ar:bo I.lo=bo I.hi:=by rw[h1,h2,xr]
 refine⟨Hp ok.1 ok.2 Ar,by grind⟩
theorem eT.flip {I:bP} {x:R} {n:Nat} (h:eT I x n):eT (dd I) (-x) n:=by
 obtain⟨ok,c7,g3,z,w,h1,h2,aq,aE,aF,aN⟩:=h
 refine⟨ZZ ok,g3.flip,c7.flip,-w,-z,?_,?_,?_,?_,?_,?_⟩
 ·show bo (dx _)=_
  rw[uR,h2,jD];grind
 ·show bo (dx _)=_
  rw[uR,h1,jD];grind
 all_goals rw[jD];grind
theorem eT.more {I J:bP} {x:R} {n m:Nat} (h:eT I x n) (k:eT J x m) (l:n≤m):bo I.lo≤bo J.lo∧bo J.hi≤bo I.hi:=by
 obtain⟨_,_,_,z,w,h1,h2,aq,aE,aF,aN⟩:=h
 obtain⟨_,_,_,g5,w',bE,bM,bn,h5,oM,bf⟩:=k
 obtain⟨d,rfl⟩:∃d,m=n+d:=⟨m - n,by omega⟩
 have em:aK ((n+d:Nat):Int)=aK n*aK d:=by rw[←k7];congr 1
 have Od:aK (-n)=aK (-((n+d:Nat):Int))*aK d:=by rw[←k7];congr 1;omega
 rw[em]at bn h5 oM bf
 have Oe:=eV (d:Int)
 have pm:=eV (-((n+d:Nat):Int))
 have a:=cl (show 0≤x*aK n - aD z by grind) (show 0≤aK d by grind)
 have b:=cl (show 0≤aD w - x*aK n by grind) (show 0≤aK d by grind)
 have bR:aD (z*2^d)<aD (g5+1):=by rw[jQ,gH,gW,fY];grind
 have cN:aD w'<aD (w*2^d+1):=by rw[gW,jQ,gH,fY];grind
 rw[qV]at bR cN
 have bR:aD (z*2^d)≤aD g5:=eB.2 (by omega)
 have cN:aD w'≤aD (w*2^d):=eB.2 (by omega)
 rw[jQ,gH]at bR cN
 have d1:=cl (show 0≤aD g5 - aD z*aK d by grind) (show 0≤aK (-((n+d:Nat):Int))by grind)
 have d2:=cl (show 0≤aD w*aK d - aD w' by grind) (show 0≤aK (-((n+d:Nat):Int))by grind)
 rw[h1,h2,bE,bM,Od]
 constructor<;>grind
def In (I:bP) (x:R):Prop:=bo I.lo≤x∧x≤bo I.hi
theorem QA {I J:bP} {x y:R} (h:In I x) (k:In J y):In (dJ I J) (x+y):=by
 unfold In dJ at*;simp only[y7];grind
theorem alj {I:bP} {x:R} (h:In I x):In (dd I) (-x):=by
 unfold In dd at*;simp only[uR];grind
theorem Db {I J:bP} {x y:R} (h:In I x) (k:In J y):In (cP I J) (x*y):=by
 obtain⟨b1,ep⟩:=h
 obtain⟨cy,aR⟩:=k
 have l:=O0 [cD I.lo J.hi,cD I.hi J.lo,cD I.hi J.hi] (cD I.lo J.lo)
 have g:=OH [cD I.lo J.hi,cD I.hi J.lo,cD I.hi J.hi] (cD I.lo J.lo)
 have g3:=l.2 (cD I.lo J.hi) (by simp)
 have Cx:=l.2 (cD I.hi J.lo) (by simp)
 have uE:=l.2 (cD I.hi J.hi) (by simp)
 have c7:=l.1
 have c9:=g.2 (cD I.lo J.hi) (by simp)
 have fM:=g.2 (cD I.hi J.lo) (by simp)
 have rZ:=g.2 (cD I.hi J.hi) (by simp)
 have cC:=g.1
 clear l g
 simp only[Ho]at c7 g3 Cx uE cC c9 fM rZ
 exact⟨P8 b1 ep cy aR c7 g3 Cx uE,ZX b1 ep cy aR cC c9 fM rZ⟩
theorem alQ {I:bP} {d:a6} :zq I d=true↔In I (bo d):=by
 unfold zq r7 In
 simp only[Bool.and_eq_true,decide_eq_true_eq,qc]
theorem aa4 {I J:bP} {x:R} (h:In I x) (k:In J x):ej I.lo J.hi≤0∧ej J.lo I.hi≤0:=by
 unfold In at*
 rw[qc,qc]
 constructor<;>grind
theorem alk (a:Nat):pt ((a+576460752303423488) % 1152921504606846976)=⟨-(pt a).c1,-(pt a).dA⟩:=by
 rw[Hm,y6]
 have:pt 576460752303423488=⟨-1,0⟩:=by
  have:=wN (q:=1) (by omega) 1
  rw[show 1*2^(60 - 1)=576460752303423488 by decide]at this
  rw[this];exact bF.one_mul _
 rw[this]
 exact bF.ext' (by simp only[bF.mul];grind) (by simp only[bF.mul];grind)
theorem alm (a:Nat):pt ((a+288230376151711744) % 1152921504606846976)=⟨-(pt a).dA,(pt a).c1⟩:=by
 rw[Hm,y6,ai9]
 exact bF.ext' (by simp only[bF.mul,bF.I];grind) (by simp only[bF.mul,bF.I];grind)
theorem alR {a:Nat} (h:a<1152921504606846976):pt ((1152921504606846976 - a) % 1152921504606846976)=⟨(pt a).c1,-(pt a).dA⟩:=by
 rw[Hm,alH (a:=a) (k:=1) (by omega)];rfl
end RV.Dr
namespace RV.Dr
open Go RV
theorem jd (i:bP):fe (aA i)=i:=dq i.lo i.hi
def bn (x:a6):List ai:=[.d (.bool x.neg),.d (.ints .i64 (ao x.m)),.d (.int .i64 x.e)]
def bf (x y:a6):List ai:=[.d (.bool x.neg),.d (.ints .i64 (ao x.m)),.d (.int .i64 x.e),.d (.bool y.neg),.d (.ints .i64 (ao y.m)),.d (.int .i64 y.e)]
def aT (s:St) (i:Nat) (cs:List ai):Prop:=s.ag i= .box i 0∧s.az i=some ⟨false,false,.cells cs⟩
end RV.Dr
