/- Lemmas for a claim: an abstract machine for the translated code, proved sound, and contracts of functions. By an AI agent. -/
import Derived.Test.YtmdjhngbigfblaaGreatDoorRk
import Derived.Test.YtmdjhngbigfblaaGreatDoorRj
import Derived.Test.YtmdjhngbigfblaaGreatDoorRh
import Derived.Test.YtmdjhngbigfblaaGreatDoorRe
import Derived.Test.YtmdjhngbigfblaaGreatDoorRf
import Derived.Test.YtmdjhngbigfblaaGreatDoorRc
import Derived.Test.YtmdjhngbigfblaaGreatDoorRg
set_option linter.all false
namespace RV.Dr
open Go RV
set_option linter.unusedSimpArgs false
set_option linter.unusedVariables false
set_option maxRecDepth 100000
set_option maxHeartbeats 8000000
def Gl:bC where
 pre:=fun ds=>∃(bY eO:Int) (n:Int),ds=[.agg [.int .i64 bY,.int .i64 eO],.int .u8 n]∧0≤n∧n<256
 res:=fun _=> .bool true
theorem Ob (Γ:Env) (vU:Γ.has 37 hH) (kq:Γ.has 38 gh) (vV:Γ.has 39 hG) (j3:Γ.has 40 dm) (kQ:Γ.has 42 dB) (JE:Γ.has 12 hZ) (vT:Γ.has 46 fK) (Cf:Γ.has 48 gM) (jJ:Γ.has 47 ef) (ahd:Γ.has 49 uA) (ux:Γ.has 24 eS) (NK:Γ.has 51 kL) (Cg:Γ.has 50 g1) (ahe:Γ.has 26 vL) (ds:List D) (h:Gl.pre ds):bT Γ F4 F5 ds fun d=>d=Gl.res ds:=by
 obtain⟨bY,eO,n,rfl,yv,yw⟩:=h
 have cu:∀ds,Gl.res ds= .bool true:=fun _=>rfl
 have wk:hH.pre []:=rfl
 have wm:hH.res []= .bool true:=rfl
 have im:gh.pre [.recs 2 [[.int .i64 bY,.int .i64 eO]]]:=⟨_,rfl,fun r ar=>by
  simp only[List.mem_cons,List.not_mem_nil,or_false]at ar
  exact⟨_,_,ar⟩,by simp⟩
 have rg:gh.res [.recs 2 [[.int .i64 bY,.int .i64 eO]]]= .bool (fZ [.int .i64 bY,.int .i64 eO]):=by
  simp only[gh,List.all_cons,List.all_nil,Bool.and_true]
 rw[cu,fU]
 unfold F4 F5
 refine b3 (fun s=>aT s 2 [.d (.int .i64 bY),.d (.int .i64 eO)]∧s.ag 1= .d (.int .u8 n)) (by simp (maxSteps:=2000000) only[↓al,ak,↓reduceIte,reduceCtorEq,Nat.reduceEqDiff,Nat.reduceLeDiff,Nat.reduceSub,Nat.reduceAdd,Int.reduceToNat,Nat.reducePow,Int.reducePow,Int.reduceLE,Int.reduceLT,IntKind.bits,aT]) ?_
 rintro s ⟨⟨h2,aR⟩,h1⟩
 refine b3 (fun s=>s.ag 5= .d (.bool true)∧aT s 2 [.d (.int .i64 bY),.d (.int .i64 eO)]∧s.ag 1= .d (.int .u8 n)) (by simp (maxSteps:=2000000) only[↓al,ak,↓reduceIte,reduceCtorEq,Nat.reduceEqDiff,Nat.reduceLeDiff,Nat.reduceSub,Nat.reduceAdd,Int.reduceToNat,Nat.reducePow,Int.reducePow,Int.reduceLE,Int.reduceLT,IntKind.bits,h2,aR,h1,aT,vU,wk,wm]) ?_
 clear h2 aR h1
 rintro s ⟨aF,⟨h2,aR⟩,h1⟩
 refine b3 (fun s=>(fZ [.int .i64 bY,.int .i64 eO])=true∧s.ag 5= .d (.bool true)∧aT s 2 [.d (.int .i64 bY),.d (.int .i64 eO)]∧s.ag 1= .d (.int .u8 n)) ?_ ?_
 ·generalize (fZ [.int .i64 bY,.int .i64 eO])=t at*
  cases t with
  |false=>simp (maxSteps:=2000000) only[↓al,ak,↓reduceIte,reduceCtorEq,Nat.reduceEqDiff,Nat.reduceLeDiff,Nat.reduceSub,Nat.reduceAdd,Int.reduceToNat,Nat.reducePow,Int.reducePow,Int.reduceLE,Int.reduceLT,IntKind.bits,aF,h2,aR,h1,aT,kq,im,rg,Bool.not_false]
  |true=>simp (maxSteps:=2000000) only[↓al,ak,↓reduceIte,reduceCtorEq,Nat.reduceEqDiff,Nat.reduceLeDiff,Nat.reduceSub,Nat.reduceAdd,Int.reduceToNat,Nat.reducePow,Int.reducePow,Int.reduceLE,Int.reduceLT,IntKind.bits,aF,h2,aR,h1,aT,kq,im,rg,Bool.not_true]
 clear aF h2 aR h1 im rg
 rintro s ⟨bh,aF,⟨h2,aR⟩,h1⟩
 obtain⟨cF,rfl,WV,aK,Aw⟩:=AV bh
 obtain⟨dh,fE⟩:∃a,a=an bY cF:=⟨_,rfl⟩
 have jg:dh<1152921504606846976:=fE▸hv _ _
 have hD:a2 dh≤14:=by have:=qa bY (Q:=cF) (by omega);rw[←fE]at this;omega
 obtain⟨k,yx⟩:∃k:Nat,n % 70+1=(k:Int):=⟨(n % 70+1).toNat,by omega⟩
 have bE:1≤k:=by omega
 have bM:k≤70:=by omega
 have pE:d1.win 0 1:=by rw[←vS];exact sg (fun _=>by decide+kernel)
 have zt:bO d1:=win.up pE (by omega) (by omega)
 have Mr:cO d1:=win.up pE (by omega) (by omega)
 obtain⟨i,uB⟩:∃i:a6,i=hP (-(k:Int)):=⟨_,rfl⟩
 have FZ:i.win (-160) 2:=by rw[uB];exact Ls (by omega) (by omega)
 have i1:i.neg=false:=by rw[uB];rfl
 have i2:ao i.m=[1]:=by rw[uB];exact c7
 have i3:i.e= -(k:Int):=by rw[uB];rfl
 have N0:bO i:=win.up FZ (by omega) (by omega)
 have aqV:cO i:=win.up FZ (by omega) (by omega)
 have rK:hG.pre [.int .u8 n]:=⟨n,rfl,yv,yw⟩
 have rL:hG.res [.int .u8 n]= .int .i64 k:=by rw[←yx];rfl
 try simp only[aI,aA,aZ]at rK rL
 refine bZ (fun s=>aT s 2 [.d (.int .i64 bY),.d (.int .i64 cF)]∧s.ag 5= .d (.bool true)∧s.ag 6= .d (.int .i64 k)) (by simp (maxSteps:=2000000) only[↓al,ak,↓reduceIte,reduceCtorEq,Nat.reduceEqDiff,Nat.reduceLeDiff,Nat.reduceSub,Nat.reduceAdd,Int.reduceToNat,Nat.reducePow,Int.reducePow,Int.reduceLE,Int.reduceLT,IntKind.bits,aF,h2,aR,h1,vV,rK,rL,bn,bf,aT]) ?_
 clear aF h2 aR h1
 rintro s ⟨⟨h2,aR⟩,aF,aN⟩
 obtain⟨bt,bG,rn⟩:∃x y:a6,dR false dh k=⟨x,y⟩:=⟨_,_,rfl⟩
 have ki:eT ⟨bt,bG⟩ (eD false dh) k:=rn▸iK jg hD (by omega)
 have jZ:=ki.ends (pj false dh)
 have fv:bt.win (-160) 2:=win.up jZ.1.1 (by omega) (by omega)
 have la:bO bt:=win.up fv (by omega) (by omega)
 have zd:cO bt:=win.up fv (by omega) (by omega)
 have gw:bG.win (-160) 2:=win.up jZ.1.2 (by omega) (by omega)
 have tD:bO bG:=win.up gw (by omega) (by omega)
 have ze:cO bG:=win.up gw (by omega) (by omega)
 have rM:dm.pre [.agg [.int .i64 bY,.int .i64 cF],.int .i64 k]:=⟨bY,cF,k,rfl,(by omega),(fE▸hD),by omega⟩
 have rN:dm.res [.agg [.int .i64 bY,.int .i64 cF],.int .i64 k]=aA ⟨bt,bG⟩:=by simp only[dm,Int.toNat_natCast,←fE,rn]
 try simp only[aI,aA,aZ]at rM rN
 refine bZ (fun s=>aT s 2 [.d (.int .i64 bY),.d (.int .i64 cF)]∧s.ag 5= .d (.bool true)∧s.ag 6= .d (.int .i64 k)∧aT s 7 (bf bt bG)) (by simp (maxSteps:=2000000) only[↓al,ak,↓reduceIte,reduceCtorEq,Nat.reduceEqDiff,Nat.reduceLeDiff,Nat.reduceSub,Nat.reduceAdd,Int.reduceToNat,Nat.reducePow,Int.reducePow,Int.reduceLE,Int.reduceLT,IntKind.bits,h2,aR,aF,aN,j3,rM,rN,bn,bf,aT]) ?_
 clear h2 aR aF aN
 rintro s ⟨⟨h2,aR⟩,aF,aN,⟨aM,bb⟩⟩
 obtain⟨bH,bK,rp⟩:∃x y:a6,dR true dh k=⟨x,y⟩:=⟨_,_,rfl⟩
 have kj:eT ⟨bH,bK⟩ (eD true dh) k:=rp▸iK jg hD (by omega)
 have j0:=kj.ends (pj true dh)
 have fw:bH.win (-160) 2:=win.up j0.1.1 (by omega) (by omega)
 have qd:bO bH:=win.up fw (by omega) (by omega)
 have zf:cO bH:=win.up fw (by omega) (by omega)
 have gx:bK.win (-160) 2:=win.up j0.1.2 (by omega) (by omega)
 have wO:bO bK:=win.up gx (by omega) (by omega)
 have zg:cO bK:=win.up gx (by omega) (by omega)
 have rO:dB.pre [.agg [.int .i64 bY,.int .i64 cF],.int .i64 k]:=⟨bY,cF,k,rfl,(by omega),(fE▸hD),by omega⟩
 have rP:dB.res [.agg [.int .i64 bY,.int .i64 cF],.int .i64 k]=aA ⟨bH,bK⟩:=by simp only[dB,Int.toNat_natCast,←fE,rp]
 try simp only[aI,aA,aZ]at rO rP
 refine bZ (fun s=>aT s 2 [.d (.int .i64 bY),.d (.int .i64 cF)]∧s.ag 5= .d (.bool true)∧s.ag 6= .d (.int .i64 k)∧aT s 7 (bf bt bG)∧aT s 8 (bf bH bK)) (by simp (maxSteps:=2000000) only[↓al,ak,↓reduceIte,reduceCtorEq,Nat.reduceEqDiff,Nat.reduceLeDiff,Nat.reduceSub,Nat.reduceAdd,Int.reduceToNat,Nat.reducePow,Int.reducePow,Int.reduceLE,Int.reduceLT,IntKind.bits,h2,aR,aF,aN,aM,bb,kQ,rO,rP,bn,bf,aT]) ?_
 clear h2 aR aF aN aM bb
 rintro s ⟨⟨h2,aR⟩,aF,aN,⟨aM,bb⟩,⟨aY,bk⟩⟩
 have rQ:hZ.pre [aA ⟨bt,bG⟩]:=⟨_,_,_,_,_,_,rfl,Nat.le_trans (hn la) (by decide),Nat.le_trans (hn tD) (by decide)⟩
 have rR:hZ.res [aA ⟨bt,bG⟩]= .bool true:=by
  have q:q6 bt.neg (ao bt.m) bt.e bG.neg (ao bG.m) bG.e=true:=y3 (win.up fv (by omega) (by omega)) (win.up gw (by omega) (by omega)) (by have:=jc la;have:=fv.2;by_cases h0:bt.m=0<;>first|(rw[h0,eE];omega)|(have:=fv.2 h0;omega)) (by by_cases h0:bG.m=0<;>first|(rw[h0,eE];omega)|(have:=gw.2 h0;omega)) jZ.2.1
  simp only[hZ,aA,aZ,q]
 try simp only[aI,aA,aZ]at rQ rR
 have rS:hZ.pre [aA ⟨bH,bK⟩]:=⟨_,_,_,_,_,_,rfl,Nat.le_trans (hn qd) (by decide),Nat.le_trans (hn wO) (by decide)⟩
 have rT:hZ.res [aA ⟨bH,bK⟩]= .bool true:=by
  have q:q6 bH.neg (ao bH.m) bH.e bK.neg (ao bK.m) bK.e=true:=y3 (win.up fw (by omega) (by omega)) (win.up gx (by omega) (by omega)) (by have:=jc qd;have:=fw.2;by_cases h0:bH.m=0<;>first|(rw[h0,eE];omega)|(have:=fw.2 h0;omega)) (by by_cases h0:bK.m=0<;>first|(rw[h0,eE];omega)|(have:=gx.2 h0;omega)) j0.2.1
  simp only[hZ,aA,aZ,q]
 try simp only[aI,aA,aZ]at rS rT
 have dw:¬bt.e<(-k):=by
  have h:bt.win (-(k:Int)) 2:=jZ.1.1
  by_cases h0:bt.m=0
  ·have:=(h.1.1 h0).2;omega
  ·have:=h.2 h0;omega
 have Wa:¬(-k)>bt.e:=dw
 have eK:¬bK.e<(-k):=by
  have h:bK.win (-(k:Int)) 2:=j0.1.2
  by_cases h0:bK.m=0
  ·have:=(h.1.1 h0).2;omega
  ·have:=h.2 h0;omega
 have Wb:¬(-k)>bK.e:=eK
 refine bZ (fun s=>aT s 2 [.d (.int .i64 bY),.d (.int .i64 cF)]∧s.ag 5= .d (.bool true)∧s.ag 6= .d (.int .i64 k)∧aT s 7 (bf bt bG)∧aT s 8 (bf bH bK)) ?_ ?_
 rotate_left
 ·clear h2 aR aF aN aM bb aY bk
  rintro s ⟨⟨h2,aR⟩,aF,aN,⟨aM,bb⟩,⟨aY,bk⟩⟩
  have rU:fK.pre [.int .i64 1]:=⟨1,rfl,by omega,by omega⟩
  have rV:fK.res [.int .i64 1]=aI d1:=by
   have:mk (decide ((1:Int)<0)) (Int.natAbs 1) 0=d1:=vS
   simp only[fK,this]
  try simp only[aI,aA,aZ]at rU rV
  refine bZ (fun s=>aT s 2 [.d (.int .i64 bY),.d (.int .i64 cF)]∧s.ag 5= .d (.bool true)∧s.ag 6= .d (.int .i64 k)∧aT s 7 (bf bt bG)∧aT s 8 (bf bH bK)∧aT s 9 (bn d1)) (by simp (maxSteps:=2000000) only[↓al,ak,↓reduceIte,reduceCtorEq,Nat.reduceEqDiff,Nat.reduceLeDiff,Nat.reduceSub,Nat.reduceAdd,Int.reduceToNat,Nat.reducePow,Int.reducePow,Int.reduceLE,Int.reduceLT,IntKind.bits,h2,aR,aF,aN,aM,bb,aY,bk,vT,rU,rV,bn,bf,aT]) ?_
  clear h2 aR aF aN aM bb aY bk
  rintro s ⟨⟨h2,aR⟩,aF,aN,⟨aM,bb⟩,⟨aY,bk⟩,⟨bd,bL⟩⟩
  obtain⟨eP,ql⟩:∃z,z=dx d1:=⟨_,rfl⟩
  have x9:eP.win (0) 1:=by rw[ql];exact iJ pE
  have BI:bO eP:=win.up x9 (by omega) (by omega)
  have aeY:cO eP:=win.up x9 (by omega) (by omega)
  have qA:gM.pre [aI d1]:=⟨d1,rfl⟩
  have qB:gM.res [aI d1]=aI eP:=by rw[ql];simp only[gM,kz];try rfl
  try simp only[aI,aA,aZ]at qA qB
  obtain⟨rZ,ae8⟩:∃g:Int,g=ej bt eP:=⟨_,rfl⟩
  have qC:ef.pre [aI bt,aI eP]:=⟨bt,eP,rfl,la,BI⟩
  have qD:ef.res [aI bt,aI eP]= .int .i64 rZ:=by rw[ae8];simp only[ef,kz]
  try simp only[aI,aA,aZ]at qC qD
  have Al:¬rZ<0:=by
   have h:¬bo bt<bo eP:=by
    rw[ql,uR,Dl]
    have:=jZ.2.2.1
    grind
   rw[ae8,Hx];exact h
  have aqZ:¬0>rZ:=Al
  obtain⟨WW,ae9⟩:∃g:Int,g=ej bG d1:=⟨_,rfl⟩
  have rW:ef.pre [aI bG,aI d1]:=⟨bG,d1,rfl,tD,zt⟩
  have rX:ef.res [aI bG,aI d1]= .int .i64 WW:=by rw[ae9];simp only[ef,kz]
  try simp only[aI,aA,aZ]at rW rX
  have Ct:¬WW>0:=by
   have h:=qc.2 (show bo bG≤bo d1 by rw[Dl];exact jZ.2.2.2)
   rw[ae9];omega
  have Wg:¬0<WW:=Ct
  obtain⟨WX,afa⟩:∃g:Int,g=ej bH eP:=⟨_,rfl⟩
  have pQ:ef.pre [aI bH,aI eP]:=⟨bH,eP,rfl,qd,BI⟩
  have pR:ef.res [aI bH,aI eP]= .int .i64 WX:=by rw[afa];simp only[ef,kz]
  try simp only[aI,aA,aZ]at pQ pR
  have ahO:¬WX<0:=by
   have h:¬bo bH<bo eP:=by
    rw[ql,uR,Dl]
    have:=j0.2.2.1
    grind
   rw[afa,Hx];exact h
  have aq0:¬0>WX:=ahO
  obtain⟨Wh,adx⟩:∃g:Int,g=ej bK d1:=⟨_,rfl⟩
  have sJ:ef.pre [aI bK,aI d1]:=⟨bK,d1,rfl,wO,zt⟩
  have sK:ef.res [aI bK,aI d1]= .int .i64 Wh:=by rw[adx];simp only[ef,kz]
  try simp only[aI,aA,aZ]at sJ sK
  have ahf:¬Wh>0:=by
   have h:=qc.2 (show bo bK≤bo d1 by rw[Dl];exact j0.2.2.2)
   rw[adx];omega
  have anP:¬0<Wh:=ahf
  refine bZ (fun s=>aT s 2 [.d (.int .i64 bY),.d (.int .i64 cF)]∧s.ag 5= .d (.bool true)∧s.ag 6= .d (.int .i64 k)∧aT s 7 (bf bt bG)∧aT s 8 (bf bH bK)∧aT s 9 (bn d1)) ?_ ?_
  rotate_left
  ·clear h2 aR aF aN aM bb aY bk bd bL
   rintro s ⟨⟨h2,aR⟩,aF,aN,⟨aM,bb⟩,⟨aY,bk⟩,⟨bd,bL⟩⟩
   by_cases ahg:a2 dh≤2
   ·
    have hI:cz dh=0:=aa3 jg ahg
    obtain⟨⟨bs,v1⟩,bq,v2⟩:=PF jg hI
    have hN:=ki.adl (k:=bs) v1
    have ps:=kj.adl (k:=bq) v2
    simp only at hN ps
    have vB:uA.pre [.agg [.int .i64 bY,.int .i64 cF]]:=⟨bY,cF,rfl,(by omega),aK⟩
    have vC:uA.res [.agg [.int .i64 bY,.int .i64 cF]]= .bool true:=by
     have q:decide ((a2 dh:Int)≤2)=true:=by simp only[decide_eq_true_eq,decide_eq_false_iff_not];omega
     simp only[uA,Int.toNat_natCast,←fE,q]
    try simp only[aI,aA,aZ]at vB vC
    rw[Hf]
    refine b3 (fun s=>s.ag 93= .d (.bool true)∧s.ag 5= .d (.bool true)∧aT s 7 (bf bt bG)∧aT s 8 (bf bH bK)∧aT s 9 (bn d1)) (by simp (maxSteps:=2000000) only[↓al,ak,↓reduceIte,reduceCtorEq,Nat.reduceEqDiff,Nat.reduceLeDiff,Nat.reduceSub,Nat.reduceAdd,Int.reduceToNat,Nat.reducePow,Int.reducePow,Int.reduceLE,Int.reduceLT,IntKind.bits,h2,aR,aF,aN,aM,bb,aY,bk,bd,bL,ahd,vB,vC,bn,bf,aT]) ?_
    clear h2 aR aF aN aM bb aY bk bd bL
    rintro s ⟨aq1,aF,⟨aM,bb⟩,⟨aY,bk⟩,⟨bd,bL⟩⟩
    refine Z3 aq1 ?_
    have zx:eS.pre [aI bt,aI bG]:=⟨bt,bG,rfl,la,tD⟩
    have zy:eS.res [aI bt,aI bG]= .bool true:=by
     have q:decide (bt=bG)=true:=decide_eq_true hN.1
     simp only[eS,kz,q,decide_true]
    try simp only[aI,aA,aZ]at zx zy
    have zz:eS.pre [aI bH,aI bK]:=⟨bH,bK,rfl,qd,wO⟩
    have zA:eS.res [aI bH,aI bK]= .bool true:=by
     have q:decide (bH=bK)=true:=decide_eq_true ps.1
     simp only[eS,kz,q,decide_true]
    try simp only[aI,aA,aZ]at zz zA
    obtain⟨kS,Bj⟩:∃z,z=cD bt bt:=⟨_,rfl⟩
    have Bk:kS.win (-320) 4:=by rw[Bj];exact win.up (AR fv fv) (by omega) (by omega)
    have Q3:bO kS:=win.up Bk (by omega) (by omega)
    have amu:cO kS:=win.up Bk (by omega) (by omega)
    have zB:kL.pre [aI bt,aI bt]:=⟨bt,bt,rfl,la,la⟩
    have zC:kL.res [aI bt,aI bt]=aI kS:=by rw[Bj];simp only[kL,kz];try rfl
    try simp only[aI,aA,aZ]at zB zC
    obtain⟨oI,Bl⟩:∃z,z=cD bH bH:=⟨_,rfl⟩
    have Bm:oI.win (-320) 4:=by rw[Bl];exact win.up (AR fw fw) (by omega) (by omega)
    have Q4:bO oI:=win.up Bm (by omega) (by omega)
    have amv:cO oI:=win.up Bm (by omega) (by omega)
    have zD:kL.pre [aI bH,aI bH]:=⟨bH,bH,rfl,qd,qd⟩
    have zE:kL.res [aI bH,aI bH]=aI oI:=by rw[Bl];simp only[kL,kz];try rfl
    try simp only[aI,aA,aZ]at zD zE
    obtain⟨oJ,Bn⟩:∃z,z=dZ kS oI:=⟨_,rfl⟩
    have Dn:oJ.win (-320) 5:=by rw[Bn];exact qL (win.up (lo':= -320) (hi':=4) Bk (by omega) (by omega)) (win.up Bm (by omega) (by omega))
    have Q5:bO oJ:=win.up Dn (by omega) (by omega)
    have amw:cO oJ:=win.up Dn (by omega) (by omega)
    have zF:g1.pre [aI kS,aI oI]:=⟨kS,oI,rfl,Q3,Q4⟩
    have zG:g1.res [aI kS,aI oI]=aI oJ:=by rw[Bn];simp only[g1,kz];try rfl
    try simp only[aI,aA,aZ]at zF zG
    have afb:eS.pre [aI oJ,aI d1]:=⟨oJ,d1,rfl,Q5,zt⟩
    have afc:eS.res [aI oJ,aI d1]= .bool true:=by
     have q:decide (oJ=d1)=true:=by
      refine decide_eq_true (Hp Dn.1 pE.1 ?_)
      have o:eD false dh*eD false dh+eD true dh*eD true dh=1:=RR.Hl dh
      rw[Bn,y7,Bj,Bl,Ho,Ho,hN.2,ps.2,Dl,o]
     simp only[eS,kz,q,decide_true]
    try simp only[aI,aA,aZ]at afb afc
    refine bZ (fun s=>s.ag 4= .d (.bool true)) ?_ ?_
    rotate_left
    ·clear aF aM bb aY bk bd bL
     rintro s aE
     simp (maxSteps:=2000000) only[↓al,ak,↓reduceIte,reduceCtorEq,Nat.reduceEqDiff,Nat.reduceLeDiff,Nat.reduceSub,Nat.reduceAdd,Int.reduceToNat,Nat.reducePow,Int.reducePow,Int.reduceLE,Int.reduceLT,IntKind.bits,aE,bn,bf,aT]
    rw[uQ,wx (by rfl)]
    refine hs 8 (fun s=>aT s 7 (bf bt bG)∧aT s 8 (bf bH bK)∧aT s 9 (bn d1)∧s.ag 101= .d (.bool true)) ?_ ?_
    ·simp only[List.take_succ_cons,List.take_zero]
     simp (maxSteps:=2000000) only[↓al,ak,↓reduceIte,reduceCtorEq,Nat.reduceEqDiff,Nat.reduceLeDiff,Nat.reduceSub,Nat.reduceAdd,Int.reduceToNat,Nat.reducePow,Int.reducePow,Int.reduceLE,Int.reduceLT,IntKind.bits,aF,aM,bb,aY,bk,bd,bL,ux,zx,zy,bn,bf,aT]
    clear aF aM bb aY bk bd bL
    rintro s ⟨⟨aM,bb⟩,⟨aY,bk⟩,⟨bd,bL⟩,afd⟩
    simp only[List.drop_succ_cons,List.drop_zero]
    refine hs 7 (fun s=>aT s 7 (bf bt bG)∧aT s 8 (bf bH bK)∧aT s 9 (bn d1)∧s.ag 108= .d (.bool true)) ?_ ?_
    ·simp only[List.take_succ_cons,List.take_zero]
     simp (maxSteps:=2000000) only[↓al,ak,↓reduceIte,reduceCtorEq,Nat.reduceEqDiff,Nat.reduceLeDiff,Nat.reduceSub,Nat.reduceAdd,Int.reduceToNat,Nat.reducePow,Int.reducePow,Int.reduceLE,Int.reduceLT,IntKind.bits,aM,bb,aY,bk,bd,bL,afd,ux,zz,zA,bn,bf,aT]
    clear aM bb aY bk bd bL afd
    rintro s ⟨⟨aM,bb⟩,⟨aY,bk⟩,⟨bd,bL⟩,afe⟩
    simp only[List.drop_succ_cons,List.drop_zero]
    refine hs 8 (fun s=>aT s 8 (bf bH bK)∧aT s 9 (bn d1)∧s.ag 109= .d (.bool true)∧s.ag 114= .agg (bn kS)∧s.ag 116= .agg (bn bH)) ?_ ?_
    ·simp only[List.take_succ_cons,List.take_zero]
     simp (maxSteps:=2000000) only[↓al,ak,↓reduceIte,reduceCtorEq,Nat.reduceEqDiff,Nat.reduceLeDiff,Nat.reduceSub,Nat.reduceAdd,Int.reduceToNat,Nat.reducePow,Int.reducePow,Int.reduceLE,Int.reduceLT,IntKind.bits,aM,bb,aY,bk,bd,bL,afe,NK,zB,zC,bn,bf,aT]
    clear aM bb aY bk bd bL afe
    rintro s ⟨⟨aY,bk⟩,⟨bd,bL⟩,anQ,anR,anS⟩
    simp only[List.drop_succ_cons,List.drop_zero]
    simp (maxSteps:=2000000) only[↓al,ak,↓reduceIte,reduceCtorEq,Nat.reduceEqDiff,Nat.reduceLeDiff,Nat.reduceSub,Nat.reduceAdd,Int.reduceToNat,Nat.reducePow,Int.reducePow,Int.reduceLE,Int.reduceLT,IntKind.bits,aY,bk,bd,bL,anQ,anR,anS,NK,Cg,ux,zD,zE,zF,zG,afb,afc,bn,bf,aT]
   have hI:cz dh≠0:=fun h=>ahg ((Pj jg (q:=2) (by omega)).2 (by
    have:dh % 288230376151711744=0:=by unfold cz cw at h;split at h<;>omega
    exact Nat.dvd_of_mod_eq_zero this))
   have tf:=Qz jg hI (A3 jg hD)
   have aff:uA.pre [.agg [.int .i64 bY,.int .i64 cF]]:=⟨bY,cF,rfl,(by omega),aK⟩
   have afg:uA.res [.agg [.int .i64 bY,.int .i64 cF]]= .bool false:=by
    have q:decide ((a2 dh:Int)≤2)=false:=by simp only[decide_eq_true_eq,decide_eq_false_iff_not];omega
    simp only[uA,Int.toNat_natCast,←fE,q]
   try simp only[aI,aA,aZ]at aff afg
   refine bZ (fun s=>s.ag 5= .d (.bool true)∧s.ag 6= .d (.int .i64 k)∧aT s 7 (bf bt bG)∧aT s 8 (bf bH bK)) (by simp (maxSteps:=2000000) only[↓al,ak,↓reduceIte,reduceCtorEq,Nat.reduceEqDiff,Nat.reduceLeDiff,Nat.reduceSub,Nat.reduceAdd,Int.reduceToNat,Nat.reducePow,Int.reducePow,Int.reduceLE,Int.reduceLT,IntKind.bits,h2,aR,aF,aN,aM,bb,aY,bk,bd,bL,ahd,aff,afg,bn,bf,aT]) ?_
   clear h2 aR aF aN aM bb aY bk bd bL
   rintro s ⟨aF,aN,⟨aM,bb⟩,⟨aY,bk⟩⟩
   refine bZ (fun s=>s.ag 5= .d (.bool true)∧aT s 7 (bf bt bG)∧aT s 8 (bf bH bK)∧aT s 10 (bn i)) (by rw[show (bn i:List ai)=[.d (.bool false),.d (.ints .i64 [1]),.d (.int .i64 (-(k:Int)))]by unfold bn;rw[i1,i2,i3]];simp (maxSteps:=2000000) only[↓al,ak,↓reduceIte,reduceCtorEq,Nat.reduceEqDiff,Nat.reduceLeDiff,Nat.reduceSub,Nat.reduceAdd,Int.reduceToNat,Nat.reducePow,Int.reducePow,Int.reduceLE,Int.reduceLT,IntKind.bits,aF,aN,aM,bb,aY,bk,Int.zero_sub,bn,bf,aT];(first|done|((repeat' apply And.intro)<;>first|assumption|with_reducible rfl|omega|(simp only[aO];omega)|exact⟨_,rfl⟩|exact⟨_,_,_,rfl⟩|exact⟨_,_,_,_,_,_,rfl⟩))) ?_
   clear aF aN aM bb aY bk
   rintro s ⟨aF,⟨aM,bb⟩,⟨aY,bk⟩,⟨bI,du⟩⟩
   obtain⟨oK,Bo⟩:∃z,z=qb ⟨bt,bG⟩:=⟨_,rfl⟩
   have Hz:oK.win (-160) 3:=by rw[Bo];exact qL (win.up (lo':= -160) (hi':=2) gw (by omega) (by omega)) (iJ (win.up fv (by omega) (by omega)))
   have Q6:bO oK:=win.up Hz (by omega) (by omega)
   have amx:cO oK:=win.up Hz (by omega) (by omega)
   have afh:vL.pre [aA ⟨bt,bG⟩]:=⟨⟨bt,bG⟩,rfl,⟨la,tD⟩⟩
   have afi:vL.res [aA ⟨bt,bG⟩]=aI oK:=by rw[Bo];simp only[vL,jd];try rfl
   try simp only[aI,aA,aZ]at afh afi
   have afj:eS.pre [aI oK,aI i]:=⟨oK,i,rfl,Q6,N0⟩
   have afk:eS.res [aI oK,aI i]= .bool true:=by
    have q:decide (oK=i)=true:=by
     rw[Bo,uB]
     exact decide_eq_true (ki.wide (by omega) tf.1)
    simp only[eS,kz,q,decide_true]
   try simp only[aI,aA,aZ]at afj afk
   obtain⟨Aj,Q7⟩:∃z,z=qb ⟨bH,bK⟩:=⟨_,rfl⟩
   have ady:Aj.win (-160) 3:=by rw[Q7];exact qL (win.up (lo':= -160) (hi':=2) gx (by omega) (by omega)) (iJ (win.up fw (by omega) (by omega)))
   have amy:bO Aj:=win.up ady (by omega) (by omega)
   have ar6:cO Aj:=win.up ady (by omega) (by omega)
   have afl:vL.pre [aA ⟨bH,bK⟩]:=⟨⟨bH,bK⟩,rfl,⟨qd,wO⟩⟩
   have afm:vL.res [aA ⟨bH,bK⟩]=aI Aj:=by rw[Q7];simp only[vL,jd];try rfl
   try simp only[aI,aA,aZ]at afl afm
   have afn:eS.pre [aI Aj,aI i]:=⟨Aj,i,rfl,amy,N0⟩
   have afo:eS.res [aI Aj,aI i]= .bool true:=by
    have q:decide (Aj=i)=true:=by
     rw[Q7,uB]
     exact decide_eq_true (kj.wide (by omega) tf.2)
    simp only[eS,kz,q,decide_true]
   try simp only[aI,aA,aZ]at afn afo
   refine bZ (fun s=>s.ag 4= .d (.bool true)) ?_ ?_
   rotate_left
   ·clear aF aM bb aY bk bI du
    rintro s aE
    simp (maxSteps:=2000000) only[↓al,ak,↓reduceIte,reduceCtorEq,Nat.reduceEqDiff,Nat.reduceLeDiff,Nat.reduceSub,Nat.reduceAdd,Int.reduceToNat,Nat.reducePow,Int.reducePow,Int.reduceLE,Int.reduceLT,IntKind.bits,aE,bn,bf,aT]
   rw[uQ,wx (by rfl)]
   refine hs 8 (fun s=>aT s 8 (bf bH bK)∧aT s 10 (bn i)∧s.ag 135= .d (.bool true)) ?_ ?_
   ·simp only[List.take_succ_cons,List.take_zero]
    simp (maxSteps:=2000000) only[↓al,ak,↓reduceIte,reduceCtorEq,Nat.reduceEqDiff,Nat.reduceLeDiff,Nat.reduceSub,Nat.reduceAdd,Int.reduceToNat,Nat.reducePow,Int.reducePow,Int.reduceLE,Int.reduceLT,IntKind.bits,aF,aM,bb,aY,bk,bI,du,ahe,ux,afh,afi,afj,afk,bn,bf,aT]
   clear aF aM bb aY bk bI du
   rintro s ⟨⟨aY,bk⟩,⟨bI,du⟩,anT⟩
   simp only[List.drop_succ_cons,List.drop_zero]
   simp (maxSteps:=2000000) only[↓al,ak,↓reduceIte,reduceCtorEq,Nat.reduceEqDiff,Nat.reduceLeDiff,Nat.reduceSub,Nat.reduceAdd,Int.reduceToNat,Nat.reducePow,Int.reducePow,Int.reduceLE,Int.reduceLT,IntKind.bits,aY,bk,bI,du,anT,ahe,ux,afl,afm,afn,afo,bn,bf,aT]
  refine bZ (fun s=>s.ag 91= .d (.bool false)∧aT s 2 [.d (.int .i64 bY),.d (.int .i64 cF)]∧s.ag 5= .d (.bool true)∧s.ag 6= .d (.int .i64 k)∧aT s 7 (bf bt bG)∧aT s 8 (bf bH bK)∧aT s 9 (bn d1)) ?_ (by
   rintro s ⟨au,⟨h2,aR⟩,aF,aN,⟨aM,bb⟩,⟨aY,bk⟩,⟨bd,bL⟩⟩
   simp (maxSteps:=2000000) only[↓al,ak,↓reduceIte,reduceCtorEq,Nat.reduceEqDiff,Nat.reduceLeDiff,Nat.reduceSub,Nat.reduceAdd,Int.reduceToNat,Nat.reducePow,Int.reducePow,Int.reduceLE,Int.reduceLT,IntKind.bits,au,h2,aR,aF,aN,aM,bb,aY,bk,bd,bL,bn,bf,aT])
  rw[uQ,wx (by rfl)]
  refine hs 8 (fun s=>aT s 2 [.d (.int .i64 bY),.d (.int .i64 cF)]∧s.ag 5= .d (.bool true)∧s.ag 6= .d (.int .i64 k)∧aT s 7 (bf bt bG)∧aT s 8 (bf bH bK)∧aT s 9 (bn d1)∧s.ag 70= .d (.bool false)∧s.ag 71= .box 7 3) ?_ ?_
  ·simp only[List.take_succ_cons,List.take_zero]
   simp (maxSteps:=2000000) only[↓al,ak,↓reduceIte,reduceCtorEq,Nat.reduceEqDiff,Nat.reduceLeDiff,Nat.reduceSub,Nat.reduceAdd,Int.reduceToNat,Nat.reducePow,Int.reducePow,Int.reduceLE,Int.reduceLT,IntKind.bits,h2,aR,aF,aN,aM,bb,aY,bk,bd,bL,Cf,jJ,qA,qB,qC,qD,Al,aqZ,gt_iff_lt,ge_iff_le,decide_true,decide_false,bn,bf,aT]
  clear h2 aR aF aN aM bb aY bk bd bL
  rintro s ⟨⟨h2,aR⟩,aF,aN,⟨aM,bb⟩,⟨aY,bk⟩,⟨bd,bL⟩,ahh,Jd⟩
  simp only[List.drop_succ_cons,List.drop_zero]
  refine hs 8 (fun s=>aT s 2 [.d (.int .i64 bY),.d (.int .i64 cF)]∧s.ag 5= .d (.bool true)∧s.ag 6= .d (.int .i64 k)∧aT s 7 (bf bt bG)∧aT s 8 (bf bH bK)∧aT s 9 (bn d1)∧s.ag 77= .d (.bool false)∧s.ag 79= .agg (bn bH)) ?_ ?_
  ·simp only[List.take_succ_cons,List.take_zero]
   simp (maxSteps:=2000000) only[↓al,ak,↓reduceIte,reduceCtorEq,Nat.reduceEqDiff,Nat.reduceLeDiff,Nat.reduceSub,Nat.reduceAdd,Int.reduceToNat,Nat.reducePow,Int.reducePow,Int.reduceLE,Int.reduceLT,IntKind.bits,h2,aR,aF,aN,aM,bb,aY,bk,bd,bL,ahh,Jd,jJ,rW,rX,Ct,Wg,gt_iff_lt,ge_iff_le,decide_true,decide_false,bn,bf,aT]
  clear h2 aR aF aN aM bb aY bk bd bL ahh Jd
  rintro s ⟨⟨h2,aR⟩,aF,aN,⟨aM,bb⟩,⟨aY,bk⟩,⟨bd,bL⟩,ahi,ahj⟩
  simp only[List.drop_succ_cons,List.drop_zero]
  refine hs 8 (fun s=>aT s 2 [.d (.int .i64 bY),.d (.int .i64 cF)]∧s.ag 5= .d (.bool true)∧s.ag 6= .d (.int .i64 k)∧aT s 7 (bf bt bG)∧aT s 8 (bf bH bK)∧aT s 9 (bn d1)∧s.ag 85= .d (.bool false)∧s.ag 87= .agg (bn bK)) ?_ ?_
  ·simp only[List.take_succ_cons,List.take_zero]
   simp (maxSteps:=2000000) only[↓al,ak,↓reduceIte,reduceCtorEq,Nat.reduceEqDiff,Nat.reduceLeDiff,Nat.reduceSub,Nat.reduceAdd,Int.reduceToNat,Nat.reducePow,Int.reducePow,Int.reduceLE,Int.reduceLT,IntKind.bits,h2,aR,aF,aN,aM,bb,aY,bk,bd,bL,ahi,ahj,Cf,jJ,qA,qB,pQ,pR,ahO,aq0,gt_iff_lt,ge_iff_le,decide_true,decide_false,bn,bf,aT]
  clear h2 aR aF aN aM bb aY bk bd bL ahi ahj
  rintro s ⟨⟨h2,aR⟩,aF,aN,⟨aM,bb⟩,⟨aY,bk⟩,⟨bd,bL⟩,aq2,aq3⟩
  simp only[List.drop_succ_cons,List.drop_zero]
  simp (maxSteps:=2000000) only[↓al,ak,↓reduceIte,reduceCtorEq,Nat.reduceEqDiff,Nat.reduceLeDiff,Nat.reduceSub,Nat.reduceAdd,Int.reduceToNat,Nat.reducePow,Int.reducePow,Int.reduceLE,Int.reduceLT,IntKind.bits,h2,aR,aF,aN,aM,bb,aY,bk,bd,bL,aq2,aq3,jJ,sJ,sK,ahf,anP,gt_iff_lt,ge_iff_le,decide_true,decide_false,bn,bf,aT]
 refine bZ (fun s=>s.ag 62= .d (.bool false)∧aT s 2 [.d (.int .i64 bY),.d (.int .i64 cF)]∧s.ag 5= .d (.bool true)∧s.ag 6= .d (.int .i64 k)∧aT s 7 (bf bt bG)∧aT s 8 (bf bH bK)) ?_ (by
  rintro s ⟨au,⟨h2,aR⟩,aF,aN,⟨aM,bb⟩,⟨aY,bk⟩⟩
  simp (maxSteps:=2000000) only[↓al,ak,↓reduceIte,reduceCtorEq,Nat.reduceEqDiff,Nat.reduceLeDiff,Nat.reduceSub,Nat.reduceAdd,Int.reduceToNat,Nat.reducePow,Int.reducePow,Int.reduceLE,Int.reduceLT,IntKind.bits,au,h2,aR,aF,aN,aM,bb,aY,bk,bn,bf,aT])
 rw[Lm]
 refine CU 9 (fun s=>aT s 2 [.d (.int .i64 bY),.d (.int .i64 cF)]∧s.ag 5= .d (.bool true)∧s.ag 6= .d (.int .i64 k)∧aT s 7 (bf bt bG)∧aT s 8 (bf bH bK)∧s.ag 33= .d (.bool false)) ?_ ?_
 ·simp only[List.take_succ_cons,List.take_zero]
  simp (maxSteps:=2000000) only[↓al,ak,↓reduceIte,reduceCtorEq,Nat.reduceEqDiff,Nat.reduceLeDiff,Nat.reduceSub,Nat.reduceAdd,Int.reduceToNat,Nat.reducePow,Int.reducePow,Int.reduceLE,Int.reduceLT,IntKind.bits,h2,aR,aF,aN,aM,bb,aY,bk,JE,rQ,rR,rS,rT,Bool.not_true,Bool.not_false,bn,bf,aT]
 clear h2 aR aF aN aM bb aY bk
 rintro s ⟨⟨h2,aR⟩,aF,aN,⟨aM,bb⟩,⟨aY,bk⟩,Cb⟩
 simp only[List.drop_succ_cons,List.drop_zero]
 refine CU 15 (fun s=>aT s 2 [.d (.int .i64 bY),.d (.int .i64 cF)]∧s.ag 5= .d (.bool true)∧s.ag 6= .d (.int .i64 k)∧aT s 7 (bf bt bG)∧aT s 8 (bf bH bK)∧s.ag 48= .d (.bool false)) ?_ ?_
 ·simp only[List.take_succ_cons,List.take_zero]
  (by_cases b8:((ao bt.m).length:Int)>0;(case pos=>(have JF:0<((ao bt.m).length:Int):=b8;simp (maxSteps:=2000000) only[↓al,ak,↓reduceIte,reduceCtorEq,Nat.reduceEqDiff,Nat.reduceLeDiff,Nat.reduceSub,Nat.reduceAdd,Int.reduceToNat,Nat.reducePow,Int.reducePow,Int.reduceLE,Int.reduceLT,IntKind.bits,h2,aR,aF,aN,aM,bb,aY,bk,Cb,b8,JF,gt_iff_lt,ge_iff_le,decide_true,decide_false,Int.zero_sub,dw,Wa,bn,bf,aT];(first|done|((repeat' apply And.intro)<;>first|assumption|with_reducible rfl|omega|(simp only[aO];omega)|exact⟨_,rfl⟩|exact⟨_,_,_,rfl⟩|exact⟨_,_,_,_,_,_,rfl⟩))));(case neg=>(have JF:¬(0<((ao bt.m).length:Int)):=b8;simp (maxSteps:=2000000) only[↓al,ak,↓reduceIte,reduceCtorEq,Nat.reduceEqDiff,Nat.reduceLeDiff,Nat.reduceSub,Nat.reduceAdd,Int.reduceToNat,Nat.reducePow,Int.reducePow,Int.reduceLE,Int.reduceLT,IntKind.bits,h2,aR,aF,aN,aM,bb,aY,bk,Cb,b8,JF,gt_iff_lt,ge_iff_le,decide_true,decide_false,bn,bf,aT])))
 clear h2 aR aF aN aM bb aY bk Cb
 rintro s ⟨⟨h2,aR⟩,aF,aN,⟨aM,bb⟩,⟨aY,bk⟩,SY⟩
 simp only[List.drop_succ_cons,List.drop_zero]
 (by_cases cL:((ao bK.m).length:Int)>0;(case pos=>(have Wi:0<((ao bK.m).length:Int):=cL;simp (maxSteps:=2000000) only[↓al,ak,↓reduceIte,reduceCtorEq,Nat.reduceEqDiff,Nat.reduceLeDiff,Nat.reduceSub,Nat.reduceAdd,Int.reduceToNat,Nat.reducePow,Int.reducePow,Int.reduceLE,Int.reduceLT,IntKind.bits,h2,aR,aF,aN,aM,bb,aY,bk,SY,cL,Wi,gt_iff_lt,ge_iff_le,decide_true,decide_false,Int.zero_sub,eK,Wb,bn,bf,aT];(first|done|((repeat' apply And.intro)<;>first|assumption|with_reducible rfl|omega|(simp only[aO];omega)|exact⟨_,rfl⟩|exact⟨_,_,_,rfl⟩|exact⟨_,_,_,_,_,_,rfl⟩))));(case neg=>(have Wi:¬(0<((ao bK.m).length:Int)):=cL;simp (maxSteps:=2000000) only[↓al,ak,↓reduceIte,reduceCtorEq,Nat.reduceEqDiff,Nat.reduceLeDiff,Nat.reduceSub,Nat.reduceAdd,Int.reduceToNat,Nat.reducePow,Int.reducePow,Int.reduceLE,Int.reduceLT,IntKind.bits,h2,aR,aF,aN,aM,bb,aY,bk,SY,cL,Wi,gt_iff_lt,ge_iff_le,decide_true,decide_false,bn,bf,aT])))
end RV.Dr
namespace RV.Dr
open Go Go.Proofs RV
set_option linter.unusedVariables false
set_option maxRecDepth 100000
set_option maxHeartbeats 4000000
theorem pm:Tryz.prog.follows .mixedOrders=true:=by kernel_rfl
def oT:Env:=Env.none
section
variable {B:Mem} (ad:sE B)
include ad
theorem wq:ae Tryz.prog B oT:=ae.none _ _
def oU:Env:=oT.add 142 wU
theorem oV:ae Tryz.prog B oU:=ae.add (wq ad) (Dg ad)
def oW:Env:=oU.add 123 kE
theorem oX:ae Tryz.prog B oW:=ae.add (oV ad) (ax pm (oV ad) (fn:=Tryz.f123) (by kernel_rfl) (by decide) t123 (Ef _ rfl rfl))
def oY:Env:=oW.add 111 lj
theorem jM:ae Tryz.prog B oY:=ae.add (oX ad) (ax pm (oX ad) (fn:=Tryz.f111) (by kernel_rfl) (by decide) t111 (Eg _ ⟨rfl,rfl,rfl⟩))
def oZ:Env:=oY.add 149 lk
theorem o0:ae Tryz.prog B oZ:=ae.add (jM ad) (ax pm (jM ad) (fn:=Tryz.f149) (by kernel_rfl) (by decide) DF (Ei _ ⟨rfl,rfl,rfl⟩))
def o1:Env:=oZ.add 148 sF
theorem o2:ae Tryz.prog B o1:=ae.add (o0 ad) (ax pm (o0 ad) (fn:=Tryz.f148) (by kernel_rfl) (by decide) DE (Ek _ ⟨rfl,rfl,rfl⟩))
def o3:Env:=o1.add 150 qg
theorem jL:ae Tryz.prog B o3:=ae.add (o2 ad) (ax pm (o2 ad) (fn:=Tryz.f150) (by kernel_rfl) (by decide) DG (Ej _ ⟨rfl,rfl,rfl⟩))
def o4:Env:=o3.add 134 q4
theorem ks:ae Tryz.prog B o4:=ae.add (jL ad) (ax pm (jL ad) (fn:=Tryz.f134) (by kernel_rfl) (by decide) t134 (Em _ ⟨rfl,rfl,rfl⟩ ⟨rfl,rfl,rfl⟩ ⟨rfl,rfl,rfl⟩ ⟨rfl,rfl,rfl⟩))
def o5:Env:=o4.add 86 iN
theorem o6:ae Tryz.prog B o5:=ae.add (ks ad) (ax pm (ks ad) (fn:=Tryz.f86) (by kernel_rfl) (by decide) t86 (Fa _))
def o7:Env:=o5.add 122 tP
theorem o8:ae Tryz.prog B o7:=ae.add (o6 ad) (ax pm (o6 ad) (fn:=Tryz.f122) (by kernel_rfl) (by decide) t122 (Ea _))
def lC:Env:=o7.add 126 sD
theorem jK:ae Tryz.prog B lC:=ae.add (o8 ad) (ax pm (o8 ad) (fn:=Tryz.f126) (by kernel_rfl) (by decide) t126 (Eb _))
def lD:Env:=lC.add 121 pA
theorem lE:ae Tryz.prog B lD:=ae.add (jK ad) (ax pm (jK ad) (fn:=Tryz.f121) (by kernel_rfl) (by decide) t121 (Ec _ rfl rfl rfl rfl))
def lF:Env:=lD.add 117 jV
theorem lG:ae Tryz.prog B lF:=ae.add (lE ad) (ax pm (lE ad) (fn:=Tryz.f117) (by kernel_rfl) (by decide) t117 (DU _))
def lH:Env:=lF.add 116 sB
theorem lI:ae Tryz.prog B lH:=ae.add (lG ad) (tt pm (lG ad) (fn:=Tryz.f116) (by kernel_rfl) (by decide) t116 (D2 _))
def lJ:Env:=lH.add 84 jH
theorem kr:ae Tryz.prog B lJ:=ae.add (lI ad) (ax pm (lI ad) (fn:=Tryz.f84) (by kernel_rfl) (by decide) t84 (Fc _ rfl rfl rfl rfl))
def lK:Env:=lJ.add 87 e1
theorem lL:ae Tryz.prog B lK:=ae.add (kr ad) (ax pm (kr ad) (fn:=Tryz.f87) (by kernel_rfl) (by decide) t87 (Ff _ rfl rfl rfl rfl rfl rfl))
def lM:Env:=lK.add 133 qi
theorem lN:ae Tryz.prog B lM:=ae.add (lL ad) (ax pm (lL ad) (fn:=Tryz.f133) (by kernel_rfl) (by decide) t133 (Ep _ ⟨rfl,rfl,rfl⟩ ⟨rfl,rfl,rfl⟩))
def lO:Env:=lM.add 64 hb
theorem lP:ae Tryz.prog B lO:=ae.add (lN ad) (ax pm (lN ad) (fn:=Tryz.f64) (by kernel_rfl) (by decide) t64 (Fh _ rfl rfl))
def lQ:Env:=lO.add 18 sW
theorem lR:ae Tryz.prog B lQ:=ae.add (lP ad) (ax pm (lP ad) (fn:=Tryz.f18) (by kernel_rfl) (by decide) t18 (Ft _ rfl rfl))
def lS:Env:=lQ.add 151 qj
theorem lT:ae Tryz.prog B lS:=ae.add (lR ad) (ax pm (lR ad) (fn:=Tryz.f151) (by kernel_rfl) (by decide) DH (Er _ ⟨rfl,rfl,rfl⟩ ⟨rfl,rfl,rfl⟩))
def lU:Env:=lS.add 152 tR
theorem lV:ae Tryz.prog B lU:=ae.add (lT ad) (ax pm (lT ad) (fn:=Tryz.f152) (by kernel_rfl) (by decide) DI (Ex _))
def lW:Env:=lU.add 70 s0
theorem lX:ae Tryz.prog B lW:=ae.add (lV ad) (ax pm (lV ad) (fn:=Tryz.f70) (by kernel_rfl) (by decide) t70 (FI _))
def lY:Env:=lW.add 67 lA
theorem lZ:ae Tryz.prog B lY:=ae.add (lX ad) (ax pm (lX ad) (fn:=Tryz.f67) (by kernel_rfl) (by decide) t67 (Fg _ rfl rfl))
def l0:Env:=lY.cg 118 je
theorem l1:ae Tryz.prog B l0:=ae.cg (lZ ad) (ei pm (lZ ad) (fn:=Tryz.f118) (by kernel_rfl) (by decide) t118 (fun bg cs h=>DR _ bg cs h))
def l2:Env:=l0.add 100 kg
theorem l3:ae Tryz.prog B l2:=ae.add (l1 ad) (ax pm (l1 ad) (fn:=Tryz.f100) (by kernel_rfl) (by decide) t100 (D6 _ rfl rfl rfl))
def l4:Env:=l2.add 106 vt
theorem l5:ae Tryz.prog B l4:=ae.add (l3 ad) (ax pm (l3 ad) (fn:=Tryz.f106) (by kernel_rfl) (by decide) t106 (Ed _ rfl rfl))
def l6:Env:=l4.add 140 sy
theorem l7:ae Tryz.prog B l6:=ae.add (l5 ad) (ax pm (l5 ad) (fn:=Tryz.f140) (by kernel_rfl) (by decide) t140 (DV _))
def l8:Env:=l6.cg 120 tJ
theorem l9:ae Tryz.prog B l8:=ae.cg (l7 ad) (ei pm (l7 ad) (fn:=Tryz.f120) (by kernel_rfl) (by decide) t120 (fun bg cs h=>DS _ rfl bg cs h))
def ma:Env:=l8.cg 132 tK
theorem mb:ae Tryz.prog B ma:=ae.cg (l9 ad) (ei pm (l9 ad) (fn:=Tryz.f132) (by kernel_rfl) (by decide) t132 (fun bg cs h=>DT _ rfl bg cs h))
def mc:Env:=ma.cg 119 py
theorem me:ae Tryz.prog B mc:=ae.cg (mb ad) (ei pm (mb ad) (fn:=Tryz.f119) (by kernel_rfl) (by decide) t119 (fun bg cs h=>DW _ rfl rfl rfl rfl rfl rfl bg cs h))
def mf:Env:=mc.add 85 jo
theorem mg:ae Tryz.prog B mf:=ae.add (me ad) (ax pm (me ad) (fn:=Tryz.f85) (by kernel_rfl) (by decide) t85 (E9 _ rfl))
def mh:Env:=mf.add 147 sA
theorem mj:ae Tryz.prog B mh:=ae.add (mg ad) (ax pm (mg ad) (fn:=Tryz.f147) (by kernel_rfl) (by decide) DD (DX _))
def ml:Env:=mh.add 131 lh
theorem mm:ae Tryz.prog B ml:=ae.add (mj ad) (ax pm (mj ad) (fn:=Tryz.f131) (by kernel_rfl) (by decide) t131 (DY _ rfl rfl))
def mn:Env:=ml.add 102 jW
theorem mo:ae Tryz.prog B mn:=ae.add (mm ad) (ax pm (mm ad) (fn:=Tryz.f102) (by kernel_rfl) (by decide) t102 (DZ _ rfl rfl))
def mq:Env:=mn.add 107 jX
theorem mr:ae Tryz.prog B mq:=ae.add (mo ad) (ax pm (mo ad) (fn:=Tryz.f107) (by kernel_rfl) (by decide) t107 (D0 _ rfl rfl rfl))
def mv:Env:=mq.add 98 kn
theorem mw:ae Tryz.prog B mv:=ae.add (mr ad) (ax pm (mr ad) (fn:=Tryz.f98) (by kernel_rfl) (by decide) t98 (Fi _))
def mx:Env:=mv.add 66 ko
theorem my:ae Tryz.prog B mx:=ae.add (mw ad) (ax pm (mw ad) (fn:=Tryz.f66) (by kernel_rfl) (by decide) t66 (Fl _ rfl rfl rfl rfl rfl rfl rfl rfl rfl rfl rfl rfl))
def mz:Env:=mx.add 58 pJ
theorem mA:ae Tryz.prog B mz:=ae.add (my ad) (ax pm (my ad) (fn:=Tryz.f58) (by kernel_rfl) (by decide) t58 (Fk _ rfl rfl))
def mB:Env:=mz.add 57 jI
theorem mC:ae Tryz.prog B mB:=ae.add (mA ad) (ax pm (mA ad) (fn:=Tryz.f57) (by kernel_rfl) (by decide) t57 (Fm _ rfl rfl rfl rfl rfl rfl))
def mD:Env:=mB.add 71 qv
theorem mE:ae Tryz.prog B mD:=ae.add (mC ad) (ax pm (mC ad) (fn:=Tryz.f71) (by kernel_rfl) (by decide) t71 (FF _ rfl rfl))
def mF:Env:=mD.add 72 qw
theorem mG:ae Tryz.prog B mF:=ae.add (mE ad) (ax pm (mE ad) (fn:=Tryz.f72) (by kernel_rfl) (by decide) t72 (FH _ rfl rfl))
def mH:Env:=mF.add 103 pz
theorem mI:ae Tryz.prog B mH:=ae.add (mG ad) (ax pm (mG ad) (fn:=Tryz.f103) (by kernel_rfl) (by decide) t103 (D1 _ rfl rfl rfl))
def mJ:Env:=mH.add 109 q3
theorem iO:ae Tryz.prog B mJ:=ae.add (mI ad) (ax pm (mI ad) (fn:=Tryz.f109) (by kernel_rfl) (by decide) t109 (Ee _ rfl rfl rfl rfl))
theorem vW:pw Tryz.prog B q8:=fun f C e=>by
 unfold q8 at e
 split at e
 ·rename_i h
  subst h
  simp only[Option.some.injEq]at e
  subst e
  exact tv pm (iO ad) (fn:=Tryz.f108) (by kernel_rfl) (by decide) t108 (Eo _ rfl rfl)
 ·cases e
def mK:Env:=mJ.add 33 uq
theorem mL:ae Tryz.prog B mK:=ae.add (iO ad) (tu pm (iO ad) (vW ad) (fn:=Tryz.f33) (by kernel_rfl) (by decide) t33 (FJ _ rfl rfl rfl rfl rfl rfl))
def mM:Env:=mK.add 27 jr
theorem mN:ae Tryz.prog B mM:=ae.add (mL ad) (ax pm (mL ad) (fn:=Tryz.f27) (by kernel_rfl) (by decide) t27 (Fq _ rfl rfl))
def mO:Env:=mM.add 31 kM
theorem mP:ae Tryz.prog B mO:=ae.add (mN ad) (ax pm (mN ad) (fn:=Tryz.f31) (by kernel_rfl) (by decide) t31 (Fp _ rfl rfl))
def mQ:Env:=mO.add 68 vM
theorem vX:ae Tryz.prog B mQ:=ae.add (mP ad) (ax pm (mP ad) (fn:=Tryz.f68) (by kernel_rfl) (by decide) t68 (Fx _ rfl rfl))
def mR:Env:=mQ.add 144 wW
theorem mS:ae Tryz.prog B mR:=ae.add (vX ad) (Dk B)
def mT:Env:=mR.add 128 vr
theorem mU:ae Tryz.prog B mT:=ae.add (mS ad) (ax pm (mS ad) (fn:=Tryz.f128) (by kernel_rfl) (by decide) t128 (Ey _ rfl rfl))
def mV:Env:=mT.add 99 jG
theorem mW:ae Tryz.prog B mV:=ae.add (mU ad) (ax pm (mU ad) (fn:=Tryz.f99) (by kernel_rfl) (by decide) t99 (Fb _ rfl rfl))
def mX:Env:=mV.cg 110 pB
theorem mY:ae Tryz.prog B mX:=ae.cg (mW ad) (ei pm (mW ad) (fn:=Tryz.f110) (by kernel_rfl) (by decide) t110 (fun bg cs h=>En _ rfl rfl rfl rfl bg cs h))
def mZ:Env:=mX.add 74 pK
theorem m0:ae Tryz.prog B mZ:=ae.add (mY ad) (ax pm (mY ad) (fn:=Tryz.f74) (by kernel_rfl) (by decide) t74 (Fw _ rfl rfl rfl rfl rfl rfl rfl rfl rfl))
def m1:Env:=mZ.add 73 vN
theorem m2:ae Tryz.prog B m1:=ae.add (m0 ad) (ax pm (m0 ad) (fn:=Tryz.f73) (by kernel_rfl) (by decide) t73 (Fy _ rfl rfl))
def m3:Env:=m1.cg 129 sC
theorem m4:ae Tryz.prog B m3:=ae.cg (m2 ad) (ei pm (m2 ad) (fn:=Tryz.f129) (by kernel_rfl) (by decide) t129 (fun bg cs h=>D7 _ rfl bg cs h))
def m5:Env:=m3.cg 154 tL
theorem m6:ae Tryz.prog B m5:=ae.cg (m4 ad) (ei pm (m4 ad) (fn:=Tryz.f154) (by kernel_rfl) (by decide) DK (fun bg cs h=>D3 _ bg cs h))
def m7:Env:=m5.add 146 tM
theorem m8:ae Tryz.prog B m7:=ae.add (m6 ad) (tt pm (m6 ad) (fn:=Tryz.f146) (by kernel_rfl) (by decide) DC (D4 _ rfl rfl rfl))
def m9:Env:=m7.add 145 tO
theorem na:ae Tryz.prog B m9:=ae.add (m8 ad) (ax pm (m8 ad) (fn:=Tryz.f145) (by kernel_rfl) (by decide) t145 (D5 _ rfl rfl))
def nb:Env:=m9.cg 130 q1
theorem nc:ae Tryz.prog B nb:=ae.cg (na ad) (ei pm (na ad) (fn:=Tryz.f130) (by kernel_rfl) (by decide) t130 (fun bg cs h=>D8 _ rfl rfl rfl rfl rfl bg cs h))
def nd:Env:=nb.add 101 q2
theorem nf:ae Tryz.prog B nd:=ae.add (nc ad) (ax pm (nc ad) (fn:=Tryz.f101) (by kernel_rfl) (by decide) t101 (D9 _ rfl rfl rfl rfl rfl rfl))
def ng:Env:=nd.add 61 um
theorem nh:ae Tryz.prog B ng:=ae.add (nf ad) (ax pm (nf ad) (fn:=Tryz.f61) (by kernel_rfl) (by decide) t61 (Fz _ rfl rfl rfl rfl rfl rfl rfl rfl rfl rfl rfl rfl rfl rfl rfl rfl rfl rfl))
def ni:Env:=ng.add 60 vO
theorem nj:ae Tryz.prog B ni:=ae.add (nh ad) (ax pm (nh ad) (fn:=Tryz.f60) (by kernel_rfl) (by decide) t60 (FA _ rfl rfl))
def nk:Env:=ni.add 59 lB
theorem nm:ae Tryz.prog B nk:=ae.add (nj ad) (ax pm (nj ad) (fn:=Tryz.f59) (by kernel_rfl) (by decide) t59 (FB _ rfl rfl rfl rfl rfl rfl))
def nn:Env:=nk.add 35 vP
theorem np:ae Tryz.prog B nn:=ae.add (nm ad) (ax pm (nm ad) (fn:=Tryz.f35) (by kernel_rfl) (by decide) t35 (FD _ rfl rfl))
def nq:Env:=nn.add 153 q9
theorem nr:ae Tryz.prog B nq:=ae.add (np ad) (ax pm (np ad) (fn:=Tryz.f153) (by kernel_rfl) (by decide) DJ (Et _ ⟨rfl,rfl,rfl⟩ ⟨rfl,rfl,rfl⟩ ⟨rfl,rfl,rfl⟩ ⟨rfl,rfl,rfl⟩))
def ns:Env:=nq.add 29 sY
theorem nt:ae Tryz.prog B ns:=ae.add (nr ad) (ax pm (nr ad) (fn:=Tryz.f29) (by kernel_rfl) (by decide) t29 (FC _ rfl rfl))
def nu:Env:=ns.add 15 rB
theorem nv:ae Tryz.prog B nu:=ae.add (nt ad) (ax pm (nt ad) (fn:=Tryz.f15) (by kernel_rfl) (by decide) t15 (FE _ rfl rfl rfl rfl))
def nw:Env:=nu.add 156 ra
theorem iP:ae Tryz.prog B nw:=ae.add (nv ad) (ax pm (nv ad) (fn:=Tryz.f156) (by kernel_rfl) (by decide) DM (Eu _ ⟨rfl,rfl,rfl⟩ ⟨rfl,rfl,rfl⟩))
theorem vY:pw Tryz.prog B qU:=fun f C e=>by
 unfold qU at e
 split at e
 ·rename_i h
  subst h
  simp only[Option.some.injEq]at e
  subst e
  exact tv pm (iP ad) (fn:=Tryz.f155) (by kernel_rfl) (by decide) DL (Ez _ ⟨rfl,rfl,rfl⟩ ⟨rfl,rfl,rfl⟩ ⟨rfl,rfl,rfl⟩ ⟨rfl,rfl,rfl⟩)
 ·cases e
def nx:Env:=nw.add 135 tQ
theorem nz:ae Tryz.prog B nx:=ae.add (iP ad) (tu pm (iP ad) (vY ad) (fn:=Tryz.f135) (by kernel_rfl) (by decide) t135 (EA _ ⟨rfl,rfl,rfl⟩ ⟨rfl,rfl,rfl⟩ ⟨rfl,rfl,rfl⟩))
def nA:Env:=nx.add 136 q5
theorem nB:ae Tryz.prog B nA:=ae.add (nz ad) (ax pm (nz ad) (fn:=Tryz.f136) (by kernel_rfl) (by decide) t136 (El _))
def nC:Env:=nA.add 113 rb
theorem nD:ae Tryz.prog B nC:=ae.add (nB ad) (ax pm (nB ad) (fn:=Tryz.f113) (by kernel_rfl) (by decide) t113 (Ew _ ⟨rfl,rfl,rfl⟩ ⟨rfl,rfl,rfl⟩ ⟨rfl,rfl,rfl⟩ ⟨rfl,rfl,rfl⟩))
def nE:Env:=nC.add 44 hF
theorem nF:ae Tryz.prog B nE:=ae.add (nD ad) (ax pm (nD ad) (fn:=Tryz.f44) (by kernel_rfl) (by decide) t44 (FL _ ⟨rfl,rfl,rfl⟩ ⟨rfl,rfl,rfl⟩ ⟨rfl,rfl,rfl⟩ ⟨rfl,rfl,rfl⟩ ⟨rfl,rfl,rfl⟩))
def nG:Env:=nE.add 25 vK
theorem nH:ae Tryz.prog B nG:=ae.add (nF ad) (ax pm (nF ad) (fn:=Tryz.f25) (by kernel_rfl) (by decide) t25 (Fs _ rfl rfl rfl rfl))
def nI:Env:=nG.add 112 sG
theorem nJ:ae Tryz.prog B nI:=ae.add (nH ad) (ax pm (nH ad) (fn:=Tryz.f112) (by kernel_rfl) (by decide) t112 (Es _ ⟨rfl,rfl,rfl⟩ ⟨rfl,rfl,rfl⟩ ⟨rfl,rfl,rfl⟩ ⟨rfl,rfl,rfl⟩ ⟨rfl,rfl,rfl⟩ ⟨rfl,rfl,rfl⟩))
def nK:Env:=nI.add 79 rF
theorem nL:ae Tryz.prog B nK:=ae.add (nJ ad) (ax pm (nJ ad) (fn:=Tryz.f79) (by kernel_rfl) (by decide) t79 (FN _))
def nM:Env:=nK.add 83 rG
theorem nN:ae Tryz.prog B nM:=ae.add (nL ad) (ax pm (nL ad) (fn:=Tryz.f83) (by kernel_rfl) (by decide) t83 (FO _))
def nO:Env:=nM.add 78 kP
theorem nP:ae Tryz.prog B nO:=ae.add (nN ad) (C8 pm (nN ad) (fn:=Tryz.f78) (by kernel_rfl) (by decide) t78 (FR _ ⟨rfl,rfl,rfl⟩ ⟨rfl,rfl,rfl⟩ ⟨rfl,rfl,rfl⟩ ⟨rfl,rfl,rfl⟩ ⟨rfl,rfl,rfl⟩))
def nQ:Env:=nO.add 40 dm
theorem nR:ae Tryz.prog B nQ:=ae.add (nP ad) (ax pm (nP ad) (fn:=Tryz.f40) (by kernel_rfl) (by decide) t40 (FT _ ⟨rfl,rfl,rfl⟩))
def nS:Env:=nQ.add 42 dB
theorem nT:ae Tryz.prog B nS:=ae.add (nR ad) (ax pm (nR ad) (fn:=Tryz.f42) (by kernel_rfl) (by decide) t42 (FU _ ⟨rfl,rfl,rfl⟩))
def nU:Env:=nS.add 124 iv
theorem nV:ae Tryz.prog B nU:=ae.add (nT ad) (ax pm (nT ad) (fn:=Tryz.f124) (by kernel_rfl) (by decide) t124 (DN _))
def nW:Env:=nU.add 125 px
theorem nX:ae Tryz.prog B nW:=ae.add (nV ad) (ax pm (nV ad) (fn:=Tryz.f125) (by kernel_rfl) (by decide) t125 (DP _))
def nY:Env:=nW.add 88 jn
theorem nZ:ae Tryz.prog B nY:=ae.add (nX ad) (ax pm (nX ad) (fn:=Tryz.f88) (by kernel_rfl) (by decide) t88 (E3 _ rfl rfl rfl rfl))
def n0:Env:=nY.add 76 dT
theorem n1:ae Tryz.prog B n0:=ae.add (nZ ad) (ax pm (nZ ad) (fn:=Tryz.f76) (by kernel_rfl) (by decide) t76 (E5 _ rfl rfl))
def n2:Env:=n0.add 90 uf
theorem n3:ae Tryz.prog B n2:=ae.add (n1 ad) (ax pm (n1 ad) (fn:=Tryz.f90) (by kernel_rfl) (by decide) t90 (E1 _))
def n4:Env:=n2.add 46 fK
theorem n5:ae Tryz.prog B n4:=ae.add (n3 ad) (ax pm (n3 ad) (fn:=Tryz.f46) (by kernel_rfl) (by decide) t46 (E8 _ rfl rfl rfl rfl))
def n6:Env:=n4.add 65 j2
theorem n7:ae Tryz.prog B n6:=ae.add (n5 ad) (ax pm (n5 ad) (fn:=Tryz.f65) (by kernel_rfl) (by decide) t65 (E0 _))
def n8:Env:=n6.add 24 eS
theorem n9:ae Tryz.prog B n8:=ae.add (n7 ad) (ax pm (n7 ad) (fn:=Tryz.f24) (by kernel_rfl) (by decide) t24 (E7 _ rfl rfl))
def oa:Env:=n8.add 19 gN
theorem ob:ae Tryz.prog B oa:=ae.add (n9 ad) (ax pm (n9 ad) (fn:=Tryz.f19) (by kernel_rfl) (by decide) t19 (Fu _))
def oc:Env:=oa.add 17 hr
theorem od:ae Tryz.prog B oc:=ae.add (ob ad) (ax pm (ob ad) (fn:=Tryz.f17) (by kernel_rfl) (by decide) t17 (Fv _ rfl rfl))
def oe:Env:=oc.add 37 hH
theorem og:ae Tryz.prog B oe:=ae.add (od ad) (ax pm (od ad) (fn:=Tryz.f37) (by kernel_rfl) (by decide) t37 (FX _ ⟨rfl,rfl,rfl⟩ ⟨rfl,rfl,rfl⟩ ⟨rfl,rfl,rfl⟩ ⟨rfl,rfl,rfl⟩ ⟨rfl,rfl,rfl⟩ ⟨rfl,rfl,rfl⟩ ⟨rfl,rfl,rfl⟩ ⟨rfl,rfl,rfl⟩))
def oh:Env:=oe.add 77 uw
theorem oi:ae Tryz.prog B oh:=ae.add (og ad) (ax pm (og ad) (fn:=Tryz.f77) (by kernel_rfl) (by decide) t77 (FK _))
def oj:Env:=oh.add 38 gh
theorem om:ae Tryz.prog B oj:=ae.add (oi ad) (ax pm (oi ad) (fn:=Tryz.f38) (by kernel_rfl) (by decide) t38 (FV _ ⟨rfl,rfl,rfl⟩))
def oo:Env:=oj.add 39 hG
theorem oq:ae Tryz.prog B oo:=ae.add (om ad) (ax pm (om ad) (fn:=Tryz.f39) (by kernel_rfl) (by decide) t39 (FW _))
def ou:Env:=oo.add 96 qt
theorem ov:ae Tryz.prog B ou:=ae.add (oq ad) (ax pm (oq ad) (fn:=Tryz.f96) (by kernel_rfl) (by decide) t96 (I2 _))
def ow:Env:=ou.add 55 hc
theorem ox:ae Tryz.prog B ow:=ae.add (ov ad) (ax pm (ov ad) (fn:=Tryz.f55) (by kernel_rfl) (by decide) t55 (Ji _ rfl rfl))
def oy:Env:=ow.add 48 gM
theorem oz:ae Tryz.prog B oy:=ae.add (ox ad) (ax pm (ox ad) (fn:=Tryz.f48) (by kernel_rfl) (by decide) t48 (E4 _))
def oA:Env:=oy.add 91 iB
theorem oB:ae Tryz.prog B oA:=ae.add (oz ad) (ax pm (oz ad) (fn:=Tryz.f91) (by kernel_rfl) (by decide) t91 (I3 _ rfl rfl))
def oC:Env:=oA.add 89 hY
theorem oD:ae Tryz.prog B oC:=ae.add (oB ad) (ax pm (oB ad) (fn:=Tryz.f89) (by kernel_rfl) (by decide) t89 (IX _ rfl rfl rfl rfl))
def oE:Env:=oC.add 92 fJ
theorem oF:ae Tryz.prog B oE:=ae.add (oD ad) (ax pm (oD ad) (fn:=Tryz.f92) (by kernel_rfl) (by decide) t92 (IZ _))
def pO:Env:=oE.add 93 lx
theorem pP:ae Tryz.prog B pO:=ae.add (oF ad) (ax pm (oF ad) (fn:=Tryz.f93) (by kernel_rfl) (by decide) t93 (I0 _ rfl rfl rfl rfl rfl rfl))
def rI:Env:=pO.add 50 g1
theorem rJ:ae Tryz.prog B rI:=ae.add (pP ad) (ax pm (pP ad) (fn:=Tryz.f50) (by kernel_rfl) (by decide) t50 (Fo _ rfl rfl rfl rfl rfl rfl rfl rfl rfl rfl))
def re:Env:=rI.add 62 qu
theorem rf:ae Tryz.prog B re:=ae.add (rJ ad) (ax pm (rJ ad) (fn:=Tryz.f62) (by kernel_rfl) (by decide) t62 (I6 _))
def rh:Env:=re.add 47 ef
theorem ri:ae Tryz.prog B rh:=ae.add (rf ad) (ax pm (rf ad) (fn:=Tryz.f47) (by kernel_rfl) (by decide) t47 (Jh _ rfl rfl rfl rfl rfl rfl))
def rj:Env:=rh.add 12 hZ
theorem rk:ae Tryz.prog B rj:=ae.add (ri ad) (ax pm (ri ad) (fn:=Tryz.f12) (by kernel_rfl) (by decide) t12 (Vy _ rfl rfl rfl rfl))
def rl:Env:=rj.add 80 kp
theorem rm:ae Tryz.prog B rl:=ae.add (rk ad) (ax pm (rk ad) (fn:=Tryz.f80) (by kernel_rfl) (by decide) t80 (NM _))
def sH:Env:=rl.add 49 uA
theorem sI:ae Tryz.prog B sH:=ae.add (rm ad) (ax pm (rm ad) (fn:=Tryz.f49) (by kernel_rfl) (by decide) t49 (V2 _ ⟨rfl,rfl,rfl⟩))
def vu:Env:=sH.add 94 ly
theorem vv:ae Tryz.prog B vu:=ae.add (sI ad) (ax pm (sI ad) (fn:=Tryz.f94) (by kernel_rfl) (by decide) t94 (Nx _ rfl rfl))
def vw:Env:=vu.add 51 kL
theorem vx:ae Tryz.prog B vw:=ae.add (vv ad) (ax pm (vv ad) (fn:=Tryz.f51) (by kernel_rfl) (by decide) t51 (Ny _ rfl rfl rfl rfl))
def vy:Env:=vw.add 26 vL
theorem vz:ae Tryz.prog B vy:=ae.add (vx ad) (ax pm (vx ad) (fn:=Tryz.f26) (by kernel_rfl) (by decide) t26 (ao9 _ rfl rfl rfl rfl))
def x6:Env:=vy.add 5 Gl
theorem x7:ae Tryz.prog B x6:=ae.add (vz ad) (ax pm (vz ad) (fn:=Tryz.f5) (by kernel_rfl) (by decide) t5 (Ob _ ⟨rfl,rfl,rfl⟩ ⟨rfl,rfl,rfl⟩ ⟨rfl,rfl,rfl⟩ ⟨rfl,rfl,rfl⟩ ⟨rfl,rfl,rfl⟩ ⟨rfl,rfl,rfl⟩ ⟨rfl,rfl,rfl⟩ ⟨rfl,rfl,rfl⟩ ⟨rfl,rfl,rfl⟩ ⟨rfl,rfl,rfl⟩ ⟨rfl,rfl,rfl⟩ ⟨rfl,rfl,rfl⟩ ⟨rfl,rfl,rfl⟩ ⟨rfl,rfl,rfl⟩))
theorem vf:ld Tryz.prog B 5 Gl:=(x7 ad).1 5 Gl rfl
end
end RV.Dr
