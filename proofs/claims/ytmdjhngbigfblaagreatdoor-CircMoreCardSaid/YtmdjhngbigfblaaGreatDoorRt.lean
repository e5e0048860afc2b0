/- Lemmas for a claim: an abstract machine for the translated code, proved sound, and contracts of functions. By an AI agent. -/
import Derived.Test.YtmdjhngbigfblaaGreatDoorRk
import Derived.Test.YtmdjhngbigfblaaGreatDoorRj
import Derived.Test.YtmdjhngbigfblaaGreatDoorRh
import Derived.Test.YtmdjhngbigfblaaGreatDoorRe
import Derived.Test.YtmdjhngbigfblaaGreatDoorRf
import Derived.Test.YtmdjhngbigfblaaGreatDoorRc
import Derived.Test.YtmdjhngbigfblaaGreatDoorRg
set_option linter.all false
namespace RV.Dr
open Go RV
set_option linter.unusedSimpArgs false
set_option linter.unusedVariables false
set_option maxRecDepth 100000
set_option maxHeartbeats 8000000
def Gk:bC where
 pre:=fun ds=>∃(bY eO:Int) (n:Int) (o:Int) (d0:Bool) (d1:List Int) (d2:Int),ds=[.agg [.int .i64 bY,.int .i64 eO],.int .u8 n,.int .u8 o,.agg [.bool d0,.ints .i64 d1,.int .i64 d2]]∧0≤n∧n<256∧0≤o∧o<256
 res:=fun _=> .bool true
theorem arX (Γ:Env) (vU:Γ.has 37 hH) (kq:Γ.has 38 gh) (vV:Γ.has 39 hG) (Jz:Γ.has 14 s3) (Cj:Γ.has 44 hF) (j3:Γ.has 40 dm) (ag7:Γ.has 23 uv) (kQ:Γ.has 42 dB) (aqS:Γ.has 55 hc) (jJ:Γ.has 47 ef) (Cg:Γ.has 50 g1) (ds:List D) (h:Gk.pre ds):bT Γ Wz WA ds fun d=>d=Gk.res ds:=by
 obtain⟨bY,eO,n,o,d0,d1,d2,rfl,yv,yw,ag8,asX⟩:=h
 have cu:∀ds,Gk.res ds= .bool true:=fun _=>rfl
 have wk:hH.pre []:=rfl
 have wm:hH.res []= .bool true:=rfl
 have im:gh.pre [.recs 2 [[.int .i64 bY,.int .i64 eO]]]:=⟨_,rfl,fun r ar=>by
  simp only[List.mem_cons,List.not_mem_nil,or_false]at ar
  exact⟨_,_,ar⟩,by simp⟩
 have rg:gh.res [.recs 2 [[.int .i64 bY,.int .i64 eO]]]= .bool (fZ [.int .i64 bY,.int .i64 eO]):=by
  simp only[gh,List.all_cons,List.all_nil,Bool.and_true]
 have Cp:s3.pre [.recs 3 [[.bool d0,.ints .i64 d1,.int .i64 d2]]]:=⟨_,rfl,fun r ar=>by
  simp only[List.mem_cons,List.not_mem_nil,or_false]at ar
  exact⟨_,_,_,ar⟩,by simp⟩
 have Cq:s3.res [.recs 3 [[.bool d0,.ints .i64 d1,.int .i64 d2]]]= .bool (jT d0 d1 d2):=by
  simp only[s3,List.all_cons,List.all_nil,Bool.and_true,y2]
 rw[cu,fU]
 unfold Wz WA
 refine b3 (fun s=>aT s 4 [.d (.int .i64 bY),.d (.int .i64 eO)]∧aT s 7 [.d (.bool d0),.d (.ints .i64 d1),.d (.int .i64 d2)]∧s.ag 1= .d (.int .u8 n)∧s.ag 2= .d (.int .u8 o)) (by simp (maxSteps:=2000000) only[↓al,ak,↓reduceIte,reduceCtorEq,Nat.reduceEqDiff,Nat.reduceLeDiff,Nat.reduceSub,Nat.reduceAdd,Int.reduceToNat,Nat.reducePow,Int.reducePow,Int.reduceLE,Int.reduceLT,IntKind.bits,aT]) ?_
 rintro s ⟨⟨aE,aS⟩,⟨aM,bb⟩,h1,h2⟩
 refine b3 (fun s=>s.ag 9= .d (.bool true)∧aT s 4 [.d (.int .i64 bY),.d (.int .i64 eO)]∧aT s 7 [.d (.bool d0),.d (.ints .i64 d1),.d (.int .i64 d2)]∧s.ag 1= .d (.int .u8 n)∧s.ag 2= .d (.int .u8 o)) (by simp (maxSteps:=2000000) only[↓al,ak,↓reduceIte,reduceCtorEq,Nat.reduceEqDiff,Nat.reduceLeDiff,Nat.reduceSub,Nat.reduceAdd,Int.reduceToNat,Nat.reducePow,Int.reducePow,Int.reduceLE,Int.reduceLT,IntKind.bits,aE,aS,aM,bb,h1,h2,aT,vU,wk,wm]) ?_
 clear aE aS aM bb h1 h2
 rintro s ⟨bd,⟨aE,aS⟩,⟨aM,bb⟩,h1,h2⟩
 refine b3 (fun s=>((fZ [.int .i64 bY,.int .i64 eO])=true∧jT d0 d1 d2=true)∧s.ag 9= .d (.bool true)∧aT s 4 [.d (.int .i64 bY),.d (.int .i64 eO)]∧aT s 7 [.d (.bool d0),.d (.ints .i64 d1),.d (.int .i64 d2)]∧s.ag 1= .d (.int .u8 n)∧s.ag 2= .d (.int .u8 o)) ?_ ?_
 ·generalize (fZ [.int .i64 bY,.int .i64 eO])=t at*
  generalize jT d0 d1 d2=g at*
  cases t with
  |false=>simp (maxSteps:=2000000) only[↓al,ak,↓reduceIte,reduceCtorEq,Nat.reduceEqDiff,Nat.reduceLeDiff,Nat.reduceSub,Nat.reduceAdd,Int.reduceToNat,Nat.reducePow,Int.reducePow,Int.reduceLE,Int.reduceLT,IntKind.bits,bd,aE,aS,aM,bb,h1,h2,aT,kq,im,rg,Bool.not_false]
  |true=>
   cases g with
   |false=>simp (maxSteps:=2000000) only[↓al,ak,↓reduceIte,reduceCtorEq,Nat.reduceEqDiff,Nat.reduceLeDiff,Nat.reduceSub,Nat.reduceAdd,Int.reduceToNat,Nat.reducePow,Int.reducePow,Int.reduceLE,Int.reduceLT,IntKind.bits,bd,aE,aS,aM,bb,h1,h2,aT,kq,im,rg,Jz,Cp,Cq,Bool.not_false,Bool.not_true]
   |true=>simp (maxSteps:=2000000) only[↓al,ak,↓reduceIte,reduceCtorEq,Nat.reduceEqDiff,Nat.reduceLeDiff,Nat.reduceSub,Nat.reduceAdd,Int.reduceToNat,Nat.reducePow,Int.reducePow,Int.reduceLE,Int.reduceLT,IntKind.bits,bd,aE,aS,aM,bb,h1,h2,aT,kq,im,rg,Jz,Cp,Cq,Bool.not_true]
 clear bd aE aS aM bb h1 h2 im rg Cp Cq
 rintro s ⟨⟨bh,aqT⟩,bd,⟨aE,aS⟩,⟨aM,bb⟩,h1,h2⟩
 obtain⟨cF,rfl,WV,aK,Aw⟩:=AV bh
 obtain⟨dh,fE⟩:∃a,a=an bY cF:=⟨_,rfl⟩
 have jg:dh<1152921504606846976:=fE▸hv _ _
 have hD:a2 dh≤14:=by have:=qa bY (Q:=cF) (by omega);rw[←fE]at this;omega
 obtain⟨x,rfl,rfl,rfl,NZ⟩:=ZR aqT
 have Wf:bO x:=win.up NZ (by omega) (by omega)
 have asY:cO x:=win.up NZ (by omega) (by omega)
 obtain⟨k,yx⟩:∃k:Nat,n % 70+1=(k:Int):=⟨(n % 70+1).toNat,by omega⟩
 have bE:1≤k:=by omega
 have bM:k≤70:=by omega
 have pE:d1.win 0 1:=by rw[←vS];exact sg (fun _=>by decide+kernel)
 have zt:bO d1:=win.up pE (by omega) (by omega)
 have Mr:cO d1:=win.up pE (by omega) (by omega)
 obtain⟨m,aqU⟩:∃m:Nat,(k:Int)+o % 20=(m:Int):=⟨((k:Int)+o % 20).toNat,by omega⟩
 have hh:k≤m:=by omega
 have iX:m≤90:=by omega
 have arY:IntKind.i64.wrap o=o:=by
  have:=wrap_small (n:=o.toNat) (by omega)
  rwa [Int.toNat_of_nonneg ag8]at this
 have pW:o.tmod 20=o % 20:=Int.tmod_eq_emod_of_nonneg ag8
 have fs:=OJ NZ.1 k
 obtain⟨i,uB⟩:∃i:a6,i=hP (-(k:Int)):=⟨_,rfl⟩
 have FZ:i.win (-160) 2:=by rw[uB];exact Ls (by omega) (by omega)
 have i1:i.neg=false:=by rw[uB];rfl
 have i2:ao i.m=[1]:=by rw[uB];exact c7
 have i3:i.e= -(k:Int):=by rw[uB];rfl
 have N0:bO i:=win.up FZ (by omega) (by omega)
 have aqV:cO i:=win.up FZ (by omega) (by omega)
 have rK:hG.pre [.int .u8 n]:=⟨n,rfl,yv,yw⟩
 have rL:hG.res [.int .u8 n]= .int .i64 k:=by rw[←yx];rfl
 try simp only[aI,aA,aZ]at rK rL
 refine bZ (fun s=>s.ag 2= .d (.int .u8 o)∧aT s 4 [.d (.int .i64 bY),.d (.int .i64 cF)]∧aT s 7 (bn x)∧s.ag 9= .d (.bool true)∧s.ag 10= .d (.int .i64 k)) (by simp (maxSteps:=2000000) only[↓al,ak,↓reduceIte,reduceCtorEq,Nat.reduceEqDiff,Nat.reduceLeDiff,Nat.reduceSub,Nat.reduceAdd,Int.reduceToNat,Nat.reducePow,Int.reducePow,Int.reduceLE,Int.reduceLT,IntKind.bits,bd,aE,aS,aM,bb,h1,h2,vV,rK,rL,bn,bf,aT];(first|done|((repeat' apply And.intro)<;>first|assumption|with_reducible rfl|omega|(simp only[aO];omega)|exact⟨_,rfl⟩|exact⟨_,_,_,rfl⟩|exact⟨_,_,_,_,_,_,rfl⟩))) ?_
 clear bd aE aS aM bb h1 h2
 rintro s ⟨h2,⟨aE,aS⟩,⟨aM,bb⟩,bd,bI⟩
 refine bZ (fun s=>aT s 4 [.d (.int .i64 bY),.d (.int .i64 cF)]∧aT s 7 (bn x)∧s.ag 9= .d (.bool true)∧s.ag 10= .d (.int .i64 k)∧s.ag 11= .d (.int .i64 m)) (by simp (maxSteps:=2000000) only[↓al,ak,↓reduceIte,reduceCtorEq,Nat.reduceEqDiff,Nat.reduceLeDiff,Nat.reduceSub,Nat.reduceAdd,Int.reduceToNat,Nat.reducePow,Int.reducePow,Int.reduceLE,Int.reduceLT,IntKind.bits,h2,aE,aS,aM,bb,bd,bI,arY,pW,aqU,bn,bf,aT];(first|done|((repeat' apply And.intro)<;>first|assumption|with_reducible rfl|omega|(simp only[aO];omega)|exact⟨_,rfl⟩|exact⟨_,_,_,rfl⟩|exact⟨_,_,_,_,_,_,rfl⟩))) ?_
 clear h2 aE aS aM bb bd bI
 rintro s ⟨⟨aE,aS⟩,⟨aM,bb⟩,bd,bI,cB⟩
 obtain⟨dg,Ie⟩:∃z,z=g7 x k:=⟨_,rfl⟩
 have BN:dg.win (-200) 401:=by rw[Ie];exact win.up (yS NZ (n:=k) (by omega) (by omega) (by omega)) (by omega) (by omega)
 have SQ:bO dg:=win.up BN (by omega) (by omega)
 have asf:cO dg:=win.up BN (by omega) (by omega)
 have rM:hF.pre [aI x,.int .i64 k]:=⟨x,k,rfl,Wf,by omega,by omega⟩
 have rN:hF.res [aI x,.int .i64 k]=aI dg:=by rw[Ie];simp only[hF,kz];try rfl
 try simp only[aI,aA,aZ]at rM rN
 refine bZ (fun s=>aT s 4 [.d (.int .i64 bY),.d (.int .i64 cF)]∧aT s 7 (bn x)∧s.ag 9= .d (.bool true)∧s.ag 10= .d (.int .i64 k)∧s.ag 11= .d (.int .i64 m)∧aT s 12 (bn dg)) (by simp (maxSteps:=2000000) only[↓al,ak,↓reduceIte,reduceCtorEq,Nat.reduceEqDiff,Nat.reduceLeDiff,Nat.reduceSub,Nat.reduceAdd,Int.reduceToNat,Nat.reducePow,Int.reducePow,Int.reduceLE,Int.reduceLT,IntKind.bits,aE,aS,aM,bb,bd,bI,cB,Cj,rM,rN,bn,bf,aT];(first|done|((repeat' apply And.intro)<;>first|assumption|with_reducible rfl|omega|(simp only[aO];omega)|exact⟨_,rfl⟩|exact⟨_,_,_,rfl⟩|exact⟨_,_,_,_,_,_,rfl⟩))) ?_
 clear aE aS aM bb bd bI cB
 rintro s ⟨⟨aE,aS⟩,⟨aM,bb⟩,bd,bI,cB,⟨b9,de⟩⟩
 refine bZ (fun s=>aT s 4 [.d (.int .i64 bY),.d (.int .i64 cF)]∧aT s 7 (bn x)∧s.ag 9= .d (.bool true)∧s.ag 10= .d (.int .i64 k)∧s.ag 11= .d (.int .i64 m)∧aT s 12 (bn dg)∧aT s 13 (bn i)) (by rw[show (bn i:List ai)=[.d (.bool false),.d (.ints .i64 [1]),.d (.int .i64 (-(k:Int)))]by unfold bn;rw[i1,i2,i3]];simp (maxSteps:=2000000) only[↓al,ak,↓reduceIte,reduceCtorEq,Nat.reduceEqDiff,Nat.reduceLeDiff,Nat.reduceSub,Nat.reduceAdd,Int.reduceToNat,Nat.reducePow,Int.reducePow,Int.reduceLE,Int.reduceLT,IntKind.bits,aE,aS,aM,bb,bd,bI,cB,b9,de,Int.zero_sub,bn,bf,aT];(first|done|((repeat' apply And.intro)<;>first|assumption|with_reducible rfl|omega|(simp only[aO];omega)|exact⟨_,rfl⟩|exact⟨_,_,_,rfl⟩|exact⟨_,_,_,_,_,_,rfl⟩))) ?_
 clear aE aS aM bb bd bI cB b9 de
 rintro s ⟨⟨aE,aS⟩,⟨aM,bb⟩,bd,bI,cB,⟨b9,de⟩,⟨cH,gf⟩⟩
 obtain⟨bt,bG,rn⟩:∃x y:a6,dR false dh m=⟨x,y⟩:=⟨_,_,rfl⟩
 have ki:eT ⟨bt,bG⟩ (eD false dh) m:=rn▸iK jg hD (by omega)
 have jZ:=ki.ends (pj false dh)
 have fv:bt.win (-160) 2:=win.up jZ.1.1 (by omega) (by omega)
 have la:bO bt:=win.up fv (by omega) (by omega)
 have zd:cO bt:=win.up fv (by omega) (by omega)
 have gw:bG.win (-160) 2:=win.up jZ.1.2 (by omega) (by omega)
 have tD:bO bG:=win.up gw (by omega) (by omega)
 have ze:cO bG:=win.up gw (by omega) (by omega)
 have rO:dm.pre [.agg [.int .i64 bY,.int .i64 cF],.int .i64 m]:=⟨bY,cF,m,rfl,(by omega),(fE▸hD),by omega⟩
 have rP:dm.res [.agg [.int .i64 bY,.int .i64 cF],.int .i64 m]=aA ⟨bt,bG⟩:=by simp only[dm,Int.toNat_natCast,←fE,rn]
 try simp only[aI,aA,aZ]at rO rP
 obtain⟨bH,bK,rp⟩:∃x y:a6,dR false dh k=⟨x,y⟩:=⟨_,_,rfl⟩
 have kj:eT ⟨bH,bK⟩ (eD false dh) k:=rp▸iK jg hD (by omega)
 have j0:=kj.ends (pj false dh)
 have fw:bH.win (-160) 2:=win.up j0.1.1 (by omega) (by omega)
 have qd:bO bH:=win.up fw (by omega) (by omega)
 have zf:cO bH:=win.up fw (by omega) (by omega)
 have gx:bK.win (-160) 2:=win.up j0.1.2 (by omega) (by omega)
 have wO:bO bK:=win.up gx (by omega) (by omega)
 have zg:cO bK:=win.up gx (by omega) (by omega)
 have rQ:dm.pre [.agg [.int .i64 bY,.int .i64 cF],.int .i64 k]:=⟨bY,cF,k,rfl,(by omega),(fE▸hD),by omega⟩
 have rR:dm.res [.agg [.int .i64 bY,.int .i64 cF],.int .i64 k]=aA ⟨bH,bK⟩:=by simp only[dm,Int.toNat_natCast,←fE,rp]
 try simp only[aI,aA,aZ]at rQ rR
 have rS:uv.pre [aA ⟨bt,bG⟩,aA ⟨bH,bK⟩]:=⟨⟨bt,bG⟩,⟨bH,bK⟩,rfl,⟨la,tD⟩,⟨qd,wO⟩⟩
 have rT:uv.res [aA ⟨bt,bG⟩,aA ⟨bH,bK⟩]= .bool true:=by
  have q:r7 ⟨bt,bG⟩ ⟨bH,bK⟩=true:=by
   have h:=kj.more ki hh
   unfold r7
   rw[decide_eq_true (qc.2 h.1),decide_eq_true (qc.2 h.2)];rfl
  simp only[uv,jd,q,decide_true]
 try simp only[aI,aA,aZ]at rS rT
 obtain⟨ev,ew,Ib⟩:∃x y:a6,dR true dh m=⟨x,y⟩:=⟨_,_,rfl⟩
 have EF:eT ⟨ev,ew⟩ (eD true dh) m:=Ib▸iK jg hD (by omega)
 have EG:=EF.ends (pj true dh)
 have sn:ev.win (-160) 2:=win.up EG.1.1 (by omega) (by omega)
 have QV:bO ev:=win.up sn (by omega) (by omega)
 have QW:cO ev:=win.up sn (by omega) (by omega)
 have tE:ew.win (-160) 2:=win.up EG.1.2 (by omega) (by omega)
 have adr:bO ew:=win.up tE (by omega) (by omega)
 have QX:cO ew:=win.up tE (by omega) (by omega)
 have rU:dB.pre [.agg [.int .i64 bY,.int .i64 cF],.int .i64 m]:=⟨bY,cF,m,rfl,(by omega),(fE▸hD),by omega⟩
 have rV:dB.res [.agg [.int .i64 bY,.int .i64 cF],.int .i64 m]=aA ⟨ev,ew⟩:=by simp only[dB,Int.toNat_natCast,←fE,Ib]
 try simp only[aI,aA,aZ]at rU rV
 obtain⟨ey,ez,Ic⟩:∃x y:a6,dR true dh k=⟨x,y⟩:=⟨_,_,rfl⟩
 have EH:eT ⟨ey,ez⟩ (eD true dh) k:=Ic▸iK jg hD (by omega)
 have EI:=EH.ends (pj true dh)
 have sq:ey.win (-160) 2:=win.up EI.1.1 (by omega) (by omega)
 have QY:bO ey:=win.up sq (by omega) (by omega)
 have QZ:cO ey:=win.up sq (by omega) (by omega)
 have tF:ez.win (-160) 2:=win.up EI.1.2 (by omega) (by omega)
 have ads:bO ez:=win.up tF (by omega) (by omega)
 have Q0:cO ez:=win.up tF (by omega) (by omega)
 have qA:dB.pre [.agg [.int .i64 bY,.int .i64 cF],.int .i64 k]:=⟨bY,cF,k,rfl,(by omega),(fE▸hD),by omega⟩
 have qB:dB.res [.agg [.int .i64 bY,.int .i64 cF],.int .i64 k]=aA ⟨ey,ez⟩:=by simp only[dB,Int.toNat_natCast,←fE,Ic]
 try simp only[aI,aA,aZ]at qA qB
 have qC:uv.pre [aA ⟨ev,ew⟩,aA ⟨ey,ez⟩]:=⟨⟨ev,ew⟩,⟨ey,ez⟩,rfl,⟨QV,adr⟩,⟨QY,ads⟩⟩
 have qD:uv.res [aA ⟨ev,ew⟩,aA ⟨ey,ez⟩]= .bool true:=by
  have q:r7 ⟨ev,ew⟩ ⟨ey,ez⟩=true:=by
   have h:=EH.more EF hh
   unfold r7
   rw[decide_eq_true (qc.2 h.1),decide_eq_true (qc.2 h.2)];rfl
  simp only[uv,jd,q,decide_true]
 try simp only[aI,aA,aZ]at qC qD
 have rW:hc.pre [aI dg]:=⟨_,_,_,rfl,Nat.le_trans (hn SQ) (by decide)⟩
 have rX:hc.res [aI dg]= .bool true:=by
  have q:iw dg.neg (ao dg.m) dg.e=true:=P1 (win.up BN (by omega) (by omega)) (by have:=BN.2;by_cases h0:dg.m=0<;>first|(rw[h0,eE];omega)|(have:=BN.2 h0;omega))
  simp only[hc,aI,aZ,q]
 try simp only[aI,aA,aZ]at rW rX
 obtain⟨c9,ae6⟩:∃g:Int,g=ej dg x:=⟨_,rfl⟩
 have pQ:ef.pre [aI dg,aI x]:=⟨dg,x,rfl,SQ,Wf⟩
 have pR:ef.res [aI dg,aI x]= .int .i64 c9:=by rw[ae6];simp only[ef,kz]
 try simp only[aI,aA,aZ]at pQ pR
 have e9:c9≤0:=by
  obtain⟨_,_,z,f1,f2,f3⟩:=fs
  rw[←Ie]at f1
  rw[ae6,qc,f1]
  have q:=p7 (k:Int)
  have p:=RR.eV (-(k:Int))
  have t:=RR.cl (show 0≤bo x*RR.aK k - aD z by grind) (show 0≤RR.aK (-(k:Int))by grind)
  rw[show (bo x*RR.aK k - aD z)*RR.aK (-(k:Int))=bo x*(RR.aK k*RR.aK (-(k:Int))) - aD z*RR.aK (-(k:Int))by grind,q]at t
  grind
 have Wc:0≥c9:=e9
 obtain⟨pd,zH⟩:∃z,z=dZ dg i:=⟨_,rfl⟩
 have EJ:pd.win (-200) 402:=by rw[zH];exact qL (win.up (lo':= -200) (hi':=401) BN (by omega) (by omega)) (win.up FZ (by omega) (by omega))
 have ae2:bO pd:=win.up EJ (by omega) (by omega)
 have anN:cO pd:=win.up EJ (by omega) (by omega)
 have sJ:g1.pre [aI dg,aI i]:=⟨dg,i,rfl,SQ,N0⟩
 have sK:g1.res [aI dg,aI i]=aI pd:=by rw[zH];simp only[g1,kz];try rfl
 try simp only[aI,aA,aZ]at sJ sK
 obtain⟨JR,ae7⟩:∃g:Int,g=ej x pd:=⟨_,rfl⟩
 have vB:ef.pre [aI x,aI pd]:=⟨x,pd,rfl,Wf,ae2⟩
 have vC:ef.res [aI x,aI pd]= .int .i64 JR:=by rw[ae7];simp only[ef,kz]
 try simp only[aI,aA,aZ]at vB vC
 have Am:JR<0:=by
  obtain⟨_,_,z,f1,f2,f3⟩:=fs
  rw[←Ie]at f1
  rw[ae7,Hx,zH,y7,f1,uB,adk]
  have q:=p7 (k:Int)
  have p:=RR.eV (-(k:Int))
  have t:=RR.wA (show 0<aD z+1 - bo x*RR.aK k by grind) p
  rw[show (aD z+1 - bo x*RR.aK k)*RR.aK (-(k:Int))=aD z*RR.aK (-(k:Int))+RR.aK (-(k:Int)) - bo x*(RR.aK k*RR.aK (-(k:Int)))by grind,q]at t
  grind
 have aqW:0>JR:=Am
 refine bZ (fun s=>s.ag 8= .d (.bool true)) ?_ ?_
 rotate_left
 ·clear aE aS aM bb bd bI cB b9 de cH gf
  rintro s aY
  simp (maxSteps:=2000000) only[↓al,ak,↓reduceIte,reduceCtorEq,Nat.reduceEqDiff,Nat.reduceLeDiff,Nat.reduceSub,Nat.reduceAdd,Int.reduceToNat,Nat.reducePow,Int.reducePow,Int.reduceLE,Int.reduceLT,IntKind.bits,aY,bn,bf,aT]
 rw[uQ,wx (by rfl)]
 refine hs 11 (fun s=>aT s 4 [.d (.int .i64 bY),.d (.int .i64 cF)]∧aT s 7 (bn x)∧s.ag 10= .d (.int .i64 k)∧s.ag 11= .d (.int .i64 m)∧aT s 12 (bn dg)∧aT s 13 (bn i)∧s.ag 50= .d (.bool true)) ?_ ?_
 ·simp only[List.take_succ_cons,List.take_zero]
  simp (maxSteps:=2000000) only[↓al,ak,↓reduceIte,reduceCtorEq,Nat.reduceEqDiff,Nat.reduceLeDiff,Nat.reduceSub,Nat.reduceAdd,Int.reduceToNat,Nat.reducePow,Int.reducePow,Int.reduceLE,Int.reduceLT,IntKind.bits,aE,aS,aM,bb,bd,bI,cB,b9,de,cH,gf,j3,ag7,rO,rP,rQ,rR,rS,rT,bn,bf,aT];(first|done|((repeat' apply And.intro)<;>first|assumption|with_reducible rfl|omega|(simp only[aO];omega)|exact⟨_,rfl⟩|exact⟨_,_,_,rfl⟩|exact⟨_,_,_,_,_,_,rfl⟩))
 clear aE aS aM bb bd bI cB b9 de cH gf
 rintro s ⟨⟨aE,aS⟩,⟨aM,bb⟩,bI,cB,⟨b9,de⟩,⟨cH,gf⟩,ag9⟩
 simp only[List.drop_succ_cons,List.drop_zero]
 refine hs 9 (fun s=>aT s 7 (bn x)∧s.ag 10= .d (.int .i64 k)∧aT s 12 (bn dg)∧aT s 13 (bn i)∧s.ag 59= .d (.bool true)) ?_ ?_
 ·simp only[List.take_succ_cons,List.take_zero]
  simp (maxSteps:=2000000) only[↓al,ak,↓reduceIte,reduceCtorEq,Nat.reduceEqDiff,Nat.reduceLeDiff,Nat.reduceSub,Nat.reduceAdd,Int.reduceToNat,Nat.reducePow,Int.reducePow,Int.reduceLE,Int.reduceLT,IntKind.bits,aE,aS,aM,bb,bI,cB,b9,de,cH,gf,ag9,kQ,ag7,rU,rV,qA,qB,qC,qD,bn,bf,aT];(first|done|((repeat' apply And.intro)<;>first|assumption|with_reducible rfl|omega|(simp only[aO];omega)|exact⟨_,rfl⟩|exact⟨_,_,_,rfl⟩|exact⟨_,_,_,_,_,_,rfl⟩))
 clear aE aS aM bb bI cB b9 de cH gf ag9
 rintro s ⟨⟨aM,bb⟩,bI,⟨b9,de⟩,⟨cH,gf⟩,Ci⟩
 simp only[List.drop_succ_cons,List.drop_zero]
 refine hs 4 (fun s=>aT s 7 (bn x)∧s.ag 10= .d (.int .i64 k)∧aT s 12 (bn dg)∧aT s 13 (bn i)∧s.ag 63= .d (.bool true)) ?_ ?_
 ·simp only[List.take_succ_cons,List.take_zero]
  simp (maxSteps:=2000000) only[↓al,ak,↓reduceIte,reduceCtorEq,Nat.reduceEqDiff,Nat.reduceLeDiff,Nat.reduceSub,Nat.reduceAdd,Int.reduceToNat,Nat.reducePow,Int.reducePow,Int.reduceLE,Int.reduceLT,IntKind.bits,aM,bb,bI,b9,de,cH,gf,Ci,aqS,rW,rX,bn,bf,aT];(first|done|((repeat' apply And.intro)<;>first|assumption|with_reducible rfl|omega|(simp only[aO];omega)|exact⟨_,rfl⟩|exact⟨_,_,_,rfl⟩|exact⟨_,_,_,_,_,_,rfl⟩))
 clear aM bb bI b9 de cH gf Ci
 rintro s ⟨⟨aM,bb⟩,bI,⟨b9,de⟩,⟨cH,gf⟩,BU⟩
 simp only[List.drop_succ_cons,List.drop_zero]
 have Ct:dg.e≥(-k):=by
  have h:=fs.2.1
  rw[←Ie]at h
  by_cases h0:dg.m=0
  ·have:=(BN.1.1 h0).2;omega
  ·have:=h h0;omega
 have Wg:(-k)≤dg.e:=Ct
 refine hs 13 (fun s=>aT s 7 (bn x)∧aT s 12 (bn dg)∧aT s 13 (bn i)∧s.ag 76= .d (.bool true)) ?_ ?_
 ·simp only[List.take_succ_cons,List.take_zero]
  (by_cases b8:(((ao dg.m).length:Int)==0)=true;(case pos=>(simp (maxSteps:=2000000) only[↓al,ak,↓reduceIte,reduceCtorEq,Nat.reduceEqDiff,Nat.reduceLeDiff,Nat.reduceSub,Nat.reduceAdd,Int.reduceToNat,Nat.reducePow,Int.reducePow,Int.reduceLE,Int.reduceLT,IntKind.bits,aM,bb,bI,b9,de,cH,gf,BU,b8,gt_iff_lt,ge_iff_le,decide_true,decide_false,bn,bf,aT];(first|done|((repeat' apply And.intro)<;>first|assumption|with_reducible rfl|omega|(simp only[aO];omega)|exact⟨_,rfl⟩|exact⟨_,_,_,rfl⟩|exact⟨_,_,_,_,_,_,rfl⟩))));(case neg=>(have JF:=Bool.eq_false_iff.2 b8;simp (maxSteps:=2000000) only[↓al,ak,↓reduceIte,reduceCtorEq,Nat.reduceEqDiff,Nat.reduceLeDiff,Nat.reduceSub,Nat.reduceAdd,Int.reduceToNat,Nat.reducePow,Int.reducePow,Int.reduceLE,Int.reduceLT,IntKind.bits,aM,bb,bI,b9,de,cH,gf,BU,JF,gt_iff_lt,ge_iff_le,decide_true,decide_false,Int.zero_sub,Ct,Wg,bn,bf,aT];(first|done|((repeat' apply And.intro)<;>first|assumption|with_reducible rfl|omega|(simp only[aO];omega)|exact⟨_,rfl⟩|exact⟨_,_,_,rfl⟩|exact⟨_,_,_,_,_,_,rfl⟩)))))
 clear aM bb bI b9 de cH gf BU
 rintro s ⟨⟨aM,bb⟩,⟨b9,de⟩,⟨cH,gf⟩,Je⟩
 simp only[List.drop_succ_cons,List.drop_zero]
 refine hs 6 (fun s=>aT s 7 (bn x)∧aT s 12 (bn dg)∧aT s 13 (bn i)∧s.ag 82= .d (.bool true)) ?_ ?_
 ·simp only[List.take_succ_cons,List.take_zero]
  simp (maxSteps:=2000000) only[↓al,ak,↓reduceIte,reduceCtorEq,Nat.reduceEqDiff,Nat.reduceLeDiff,Nat.reduceSub,Nat.reduceAdd,Int.reduceToNat,Nat.reducePow,Int.reducePow,Int.reduceLE,Int.reduceLT,IntKind.bits,aM,bb,b9,de,cH,gf,Je,jJ,pQ,pR,e9,Wc,gt_iff_lt,ge_iff_le,decide_true,decide_false,bn,bf,aT];(first|done|((repeat' apply And.intro)<;>first|assumption|with_reducible rfl|omega|(simp only[aO];omega)|exact⟨_,rfl⟩|exact⟨_,_,_,rfl⟩|exact⟨_,_,_,_,_,_,rfl⟩))
 clear aM bb b9 de cH gf Je
 rintro s ⟨⟨aM,bb⟩,⟨b9,de⟩,⟨cH,gf⟩,aqX⟩
 simp only[List.drop_succ_cons,List.drop_zero]
 simp (maxSteps:=2000000) only[↓al,ak,↓reduceIte,reduceCtorEq,Nat.reduceEqDiff,Nat.reduceLeDiff,Nat.reduceSub,Nat.reduceAdd,Int.reduceToNat,Nat.reducePow,Int.reducePow,Int.reduceLE,Int.reduceLT,IntKind.bits,aM,bb,b9,de,cH,gf,aqX,Cg,jJ,sJ,sK,vB,vC,Am,aqW,gt_iff_lt,ge_iff_le,decide_true,decide_false,bn,bf,aT];(first|done|((repeat' apply And.intro)<;>first|assumption|with_reducible rfl|omega|(simp only[aO];omega)|exact⟨_,rfl⟩|exact⟨_,_,_,rfl⟩|exact⟨_,_,_,_,_,_,rfl⟩))
end RV.Dr
namespace RV.Dr
open Go Go.Proofs RV
set_option linter.unusedVariables false
set_option maxRecDepth 100000
set_option maxHeartbeats 4000000
theorem pm:Tryz.prog.follows .mixedOrders=true:=by kernel_rfl
def oT:Env:=Env.none
section
variable {B:Mem} (ad:sE B)
include ad
theorem wq:ae Tryz.prog B oT:=ae.none _ _
def oU:Env:=oT.add 142 wU
theorem oV:ae Tryz.prog B oU:=ae.add (wq ad) (Dg ad)
def oW:Env:=oU.add 123 kE
theorem oX:ae Tryz.prog B oW:=ae.add (oV ad) (ax pm (oV ad) (fn:=Tryz.f123) (by kernel_rfl) (by decide) t123 (Ef _ rfl rfl))
def oY:Env:=oW.add 111 lj
theorem jM:ae Tryz.prog B oY:=ae.add (oX ad) (ax pm (oX ad) (fn:=Tryz.f111) (by kernel_rfl) (by decide) t111 (Eg _ ⟨rfl,rfl,rfl⟩))
def oZ:Env:=oY.add 149 lk
theorem o0:ae Tryz.prog B oZ:=ae.add (jM ad) (ax pm (jM ad) (fn:=Tryz.f149) (by kernel_rfl) (by decide) DF (Ei _ ⟨rfl,rfl,rfl⟩))
def o1:Env:=oZ.add 148 sF
theorem o2:ae Tryz.prog B o1:=ae.add (o0 ad) (ax pm (o0 ad) (fn:=Tryz.f148) (by kernel_rfl) (by decide) DE (Ek _ ⟨rfl,rfl,rfl⟩))
def o3:Env:=o1.add 150 qg
theorem jL:ae Tryz.prog B o3:=ae.add (o2 ad) (ax pm (o2 ad) (fn:=Tryz.f150) (by kernel_rfl) (by decide) DG (Ej _ ⟨rfl,rfl,rfl⟩))
def o4:Env:=o3.add 134 q4
theorem ks:ae Tryz.prog B o4:=ae.add (jL ad) (ax pm (jL ad) (fn:=Tryz.f134) (by kernel_rfl) (by decide) t134 (Em _ ⟨rfl,rfl,rfl⟩ ⟨rfl,rfl,rfl⟩ ⟨rfl,rfl,rfl⟩ ⟨rfl,rfl,rfl⟩))
def o5:Env:=o4.add 86 iN
theorem o6:ae Tryz.prog B o5:=ae.add (ks ad) (ax pm (ks ad) (fn:=Tryz.f86) (by kernel_rfl) (by decide) t86 (Fa _))
def o7:Env:=o5.add 122 tP
theorem o8:ae Tryz.prog B o7:=ae.add (o6 ad) (ax pm (o6 ad) (fn:=Tryz.f122) (by kernel_rfl) (by decide) t122 (Ea _))
def lC:Env:=o7.add 126 sD
theorem jK:ae Tryz.prog B lC:=ae.add (o8 ad) (ax pm (o8 ad) (fn:=Tryz.f126) (by kernel_rfl) (by decide) t126 (Eb _))
def lD:Env:=lC.add 121 pA
theorem lE:ae Tryz.prog B lD:=ae.add (jK ad) (ax pm (jK ad) (fn:=Tryz.f121) (by kernel_rfl) (by decide) t121 (Ec _ rfl rfl rfl rfl))
def lF:Env:=lD.add 117 jV
theorem lG:ae Tryz.prog B lF:=ae.add (lE ad) (ax pm (lE ad) (fn:=Tryz.f117) (by kernel_rfl) (by decide) t117 (DU _))
def lH:Env:=lF.add 116 sB
theorem lI:ae Tryz.prog B lH:=ae.add (lG ad) (tt pm (lG ad) (fn:=Tryz.f116) (by kernel_rfl) (by decide) t116 (D2 _))
def lJ:Env:=lH.add 84 jH
theorem kr:ae Tryz.prog B lJ:=ae.add (lI ad) (ax pm (lI ad) (fn:=Tryz.f84) (by kernel_rfl) (by decide) t84 (Fc _ rfl rfl rfl rfl))
def lK:Env:=lJ.add 87 e1
theorem lL:ae Tryz.prog B lK:=ae.add (kr ad) (ax pm (kr ad) (fn:=Tryz.f87) (by kernel_rfl) (by decide) t87 (Ff _ rfl rfl rfl rfl rfl rfl))
def lM:Env:=lK.add 133 qi
theorem lN:ae Tryz.prog B lM:=ae.add (lL ad) (ax pm (lL ad) (fn:=Tryz.f133) (by kernel_rfl) (by decide) t133 (Ep _ ⟨rfl,rfl,rfl⟩ ⟨rfl,rfl,rfl⟩))
def lO:Env:=lM.add 64 hb
theorem lP:ae Tryz.prog B lO:=ae.add (lN ad) (ax pm (lN ad) (fn:=Tryz.f64) (by kernel_rfl) (by decide) t64 (Fh _ rfl rfl))
def lQ:Env:=lO.add 18 sW
theorem lR:ae Tryz.prog B lQ:=ae.add (lP ad) (ax pm (lP ad) (fn:=Tryz.f18) (by kernel_rfl) (by decide) t18 (Ft _ rfl rfl))
def lS:Env:=lQ.add 151 qj
theorem lT:ae Tryz.prog B lS:=ae.add (lR ad) (ax pm (lR ad) (fn:=Tryz.f151) (by kernel_rfl) (by decide) DH (Er _ ⟨rfl,rfl,rfl⟩ ⟨rfl,rfl,rfl⟩))
def lU:Env:=lS.add 152 tR
theorem lV:ae Tryz.prog B lU:=ae.add (lT ad) (ax pm (lT ad) (fn:=Tryz.f152) (by kernel_rfl) (by decide) DI (Ex _))
def lW:Env:=lU.add 70 s0
theorem lX:ae Tryz.prog B lW:=ae.add (lV ad) (ax pm (lV ad) (fn:=Tryz.f70) (by kernel_rfl) (by decide) t70 (FI _))
def lY:Env:=lW.add 67 lA
theorem lZ:ae Tryz.prog B lY:=ae.add (lX ad) (ax pm (lX ad) (fn:=Tryz.f67) (by kernel_rfl) (by decide) t67 (Fg _ rfl rfl))
def l0:Env:=lY.cg 118 je
theorem l1:ae Tryz.prog B l0:=ae.cg (lZ ad) (ei pm (lZ ad) (fn:=Tryz.f118) (by kernel_rfl) (by decide) t118 (fun bg cs h=>DR _ bg cs h))
def l2:Env:=l0.add 100 kg
theorem l3:ae Tryz.prog B l2:=ae.add (l1 ad) (ax pm (l1 ad) (fn:=Tryz.f100) (by kernel_rfl) (by decide) t100 (D6 _ rfl rfl rfl))
def l4:Env:=l2.add 106 vt
theorem l5:ae Tryz.prog B l4:=ae.add (l3 ad) (ax pm (l3 ad) (fn:=Tryz.f106) (by kernel_rfl) (by decide) t106 (Ed _ rfl rfl))
def l6:Env:=l4.add 140 sy
theorem l7:ae Tryz.prog B l6:=ae.add (l5 ad) (ax pm (l5 ad) (fn:=Tryz.f140) (by kernel_rfl) (by decide) t140 (DV _))
def l8:Env:=l6.cg 120 tJ
theorem l9:ae Tryz.prog B l8:=ae.cg (l7 ad) (ei pm (l7 ad) (fn:=Tryz.f120) (by kernel_rfl) (by decide) t120 (fun bg cs h=>DS _ rfl bg cs h))
def ma:Env:=l8.cg 132 tK
theorem mb:ae Tryz.prog B ma:=ae.cg (l9 ad) (ei pm (l9 ad) (fn:=Tryz.f132) (by kernel_rfl) (by decide) t132 (fun bg cs h=>DT _ rfl bg cs h))
def mc:Env:=ma.cg 119 py
theorem me:ae Tryz.prog B mc:=ae.cg (mb ad) (ei pm (mb ad) (fn:=Tryz.f119) (by kernel_rfl) (by decide) t119 (fun bg cs h=>DW _ rfl rfl rfl rfl rfl rfl bg cs h))
def mf:Env:=mc.add 85 jo
theorem mg:ae Tryz.prog B mf:=ae.add (me ad) (ax pm (me ad) (fn:=Tryz.f85) (by kernel_rfl) (by decide) t85 (E9 _ rfl))
def mh:Env:=mf.add 147 sA
theorem mj:ae Tryz.prog B mh:=ae.add (mg ad) (ax pm (mg ad) (fn:=Tryz.f147) (by kernel_rfl) (by decide) DD (DX _))
def ml:Env:=mh.add 131 lh
theorem mm:ae Tryz.prog B ml:=ae.add (mj ad) (ax pm (mj ad) (fn:=Tryz.f131) (by kernel_rfl) (by decide) t131 (DY _ rfl rfl))
def mn:Env:=ml.add 102 jW
theorem mo:ae Tryz.prog B mn:=ae.add (mm ad) (ax pm (mm ad) (fn:=Tryz.f102) (by kernel_rfl) (by decide) t102 (DZ _ rfl rfl))
def mq:Env:=mn.add 107 jX
theorem mr:ae Tryz.prog B mq:=ae.add (mo ad) (ax pm (mo ad) (fn:=Tryz.f107) (by kernel_rfl) (by decide) t107 (D0 _ rfl rfl rfl))
def mv:Env:=mq.add 98 kn
theorem mw:ae Tryz.prog B mv:=ae.add (mr ad) (ax pm (mr ad) (fn:=Tryz.f98) (by kernel_rfl) (by decide) t98 (Fi _))
def mx:Env:=mv.add 66 ko
theorem my:ae Tryz.prog B mx:=ae.add (mw ad) (ax pm (mw ad) (fn:=Tryz.f66) (by kernel_rfl) (by decide) t66 (Fl _ rfl rfl rfl rfl rfl rfl rfl rfl rfl rfl rfl rfl))
def mz:Env:=mx.add 58 pJ
theorem mA:ae Tryz.prog B mz:=ae.add (my ad) (ax pm (my ad) (fn:=Tryz.f58) (by kernel_rfl) (by decide) t58 (Fk _ rfl rfl))
def mB:Env:=mz.add 57 jI
theorem mC:ae Tryz.prog B mB:=ae.add (mA ad) (ax pm (mA ad) (fn:=Tryz.f57) (by kernel_rfl) (by decide) t57 (Fm _ rfl rfl rfl rfl rfl rfl))
def mD:Env:=mB.add 71 qv
theorem mE:ae Tryz.prog B mD:=ae.add (mC ad) (ax pm (mC ad) (fn:=Tryz.f71) (by kernel_rfl) (by decide) t71 (FF _ rfl rfl))
def mF:Env:=mD.add 72 qw
theorem mG:ae Tryz.prog B mF:=ae.add (mE ad) (ax pm (mE ad) (fn:=Tryz.f72) (by kernel_rfl) (by decide) t72 (FH _ rfl rfl))
def mH:Env:=mF.add 103 pz
theorem mI:ae Tryz.prog B mH:=ae.add (mG ad) (ax pm (mG ad) (fn:=Tryz.f103) (by kernel_rfl) (by decide) t103 (D1 _ rfl rfl rfl))
def mJ:Env:=mH.add 109 q3
theorem iO:ae Tryz.prog B mJ:=ae.add (mI ad) (ax pm (mI ad) (fn:=Tryz.f109) (by kernel_rfl) (by decide) t109 (Ee _ rfl rfl rfl rfl))
theorem vW:pw Tryz.prog B q8:=fun f C e=>by
 unfold q8 at e
 split at e
 ·rename_i h
  subst h
  simp only[Option.some.injEq]at e
  subst e
  exact tv pm (iO ad) (fn:=Tryz.f108) (by kernel_rfl) (by decide) t108 (Eo _ rfl rfl)
 ·cases e
def mK:Env:=mJ.add 33 uq
theorem mL:ae Tryz.prog B mK:=ae.add (iO ad) (tu pm (iO ad) (vW ad) (fn:=Tryz.f33) (by kernel_rfl) (by decide) t33 (FJ _ rfl rfl rfl rfl rfl rfl))
def mM:Env:=mK.add 27 jr
theorem mN:ae Tryz.prog B mM:=ae.add (mL ad) (ax pm (mL ad) (fn:=Tryz.f27) (by kernel_rfl) (by decide) t27 (Fq _ rfl rfl))
def mO:Env:=mM.add 31 kM
theorem mP:ae Tryz.prog B mO:=ae.add (mN ad) (ax pm (mN ad) (fn:=Tryz.f31) (by kernel_rfl) (by decide) t31 (Fp _ rfl rfl))
def mQ:Env:=mO.add 68 vM
theorem vX:ae Tryz.prog B mQ:=ae.add (mP ad) (ax pm (mP ad) (fn:=Tryz.f68) (by kernel_rfl) (by decide) t68 (Fx _ rfl rfl))
def mR:Env:=mQ.add 144 wW
theorem mS:ae Tryz.prog B mR:=ae.add (vX ad) (Dk B)
def mT:Env:=mR.add 128 vr
theorem mU:ae Tryz.prog B mT:=ae.add (mS ad) (ax pm (mS ad) (fn:=Tryz.f128) (by kernel_rfl) (by decide) t128 (Ey _ rfl rfl))
def mV:Env:=mT.add 99 jG
theorem mW:ae Tryz.prog B mV:=ae.add (mU ad) (ax pm (mU ad) (fn:=Tryz.f99) (by kernel_rfl) (by decide) t99 (Fb _ rfl rfl))
def mX:Env:=mV.cg 110 pB
theorem mY:ae Tryz.prog B mX:=ae.cg (mW ad) (ei pm (mW ad) (fn:=Tryz.f110) (by kernel_rfl) (by decide) t110 (fun bg cs h=>En _ rfl rfl rfl rfl bg cs h))
def mZ:Env:=mX.add 74 pK
theorem m0:ae Tryz.prog B mZ:=ae.add (mY ad) (ax pm (mY ad) (fn:=Tryz.f74) (by kernel_rfl) (by decide) t74 (Fw _ rfl rfl rfl rfl rfl rfl rfl rfl rfl))
def m1:Env:=mZ.add 73 vN
theorem m2:ae Tryz.prog B m1:=ae.add (m0 ad) (ax pm (m0 ad) (fn:=Tryz.f73) (by kernel_rfl) (by decide) t73 (Fy _ rfl rfl))
def m3:Env:=m1.cg 129 sC
theorem m4:ae Tryz.prog B m3:=ae.cg (m2 ad) (ei pm (m2 ad) (fn:=Tryz.f129) (by kernel_rfl) (by decide) t129 (fun bg cs h=>D7 _ rfl bg cs h))
def m5:Env:=m3.cg 154 tL
theorem m6:ae Tryz.prog B m5:=ae.cg (m4 ad) (ei pm (m4 ad) (fn:=Tryz.f154) (by kernel_rfl) (by decide) DK (fun bg cs h=>D3 _ bg cs h))
def m7:Env:=m5.add 146 tM
theorem m8:ae Tryz.prog B m7:=ae.add (m6 ad) (tt pm (m6 ad) (fn:=Tryz.f146) (by kernel_rfl) (by decide) DC (D4 _ rfl rfl rfl))
def m9:Env:=m7.add 145 tO
theorem na:ae Tryz.prog B m9:=ae.add (m8 ad) (ax pm (m8 ad) (fn:=Tryz.f145) (by kernel_rfl) (by decide) t145 (D5 _ rfl rfl))
def nb:Env:=m9.cg 130 q1
theorem nc:ae Tryz.prog B nb:=ae.cg (na ad) (ei pm (na ad) (fn:=Tryz.f130) (by kernel_rfl) (by decide) t130 (fun bg cs h=>D8 _ rfl rfl rfl rfl rfl bg cs h))
def nd:Env:=nb.add 101 q2
theorem nf:ae Tryz.prog B nd:=ae.add (nc ad) (ax pm (nc ad) (fn:=Tryz.f101) (by kernel_rfl) (by decide) t101 (D9 _ rfl rfl rfl rfl rfl rfl))
def ng:Env:=nd.add 61 um
theorem nh:ae Tryz.prog B ng:=ae.add (nf ad) (ax pm (nf ad) (fn:=Tryz.f61) (by kernel_rfl) (by decide) t61 (Fz _ rfl rfl rfl rfl rfl rfl rfl rfl rfl rfl rfl rfl rfl rfl rfl rfl rfl rfl))
def ni:Env:=ng.add 60 vO
theorem nj:ae Tryz.prog B ni:=ae.add (nh ad) (ax pm (nh ad) (fn:=Tryz.f60) (by kernel_rfl) (by decide) t60 (FA _ rfl rfl))
def nk:Env:=ni.add 59 lB
theorem nm:ae Tryz.prog B nk:=ae.add (nj ad) (ax pm (nj ad) (fn:=Tryz.f59) (by kernel_rfl) (by decide) t59 (FB _ rfl rfl rfl rfl rfl rfl))
def nn:Env:=nk.add 35 vP
theorem np:ae Tryz.prog B nn:=ae.add (nm ad) (ax pm (nm ad) (fn:=Tryz.f35) (by kernel_rfl) (by decide) t35 (FD _ rfl rfl))
def nq:Env:=nn.add 153 q9
theorem nr:ae Tryz.prog B nq:=ae.add (np ad) (ax pm (np ad) (fn:=Tryz.f153) (by kernel_rfl) (by decide) DJ (Et _ ⟨rfl,rfl,rfl⟩ ⟨rfl,rfl,rfl⟩ ⟨rfl,rfl,rfl⟩ ⟨rfl,rfl,rfl⟩))
def ns:Env:=nq.add 29 sY
theorem nt:ae Tryz.prog B ns:=ae.add (nr ad) (ax pm (nr ad) (fn:=Tryz.f29) (by kernel_rfl) (by decide) t29 (FC _ rfl rfl))
def nu:Env:=ns.add 15 rB
theorem nv:ae Tryz.prog B nu:=ae.add (nt ad) (ax pm (nt ad) (fn:=Tryz.f15) (by kernel_rfl) (by decide) t15 (FE _ rfl rfl rfl rfl))
def nw:Env:=nu.add 156 ra
theorem iP:ae Tryz.prog B nw:=ae.add (nv ad) (ax pm (nv ad) (fn:=Tryz.f156) (by kernel_rfl) (by decide) DM (Eu _ ⟨rfl,rfl,rfl⟩ ⟨rfl,rfl,rfl⟩))
theorem vY:pw Tryz.prog B qU:=fun f C e=>by
 unfold qU at e
 split at e
 ·rename_i h
  subst h
  simp only[Option.some.injEq]at e
  subst e
  exact tv pm (iP ad) (fn:=Tryz.f155) (by kernel_rfl) (by decide) DL (Ez _ ⟨rfl,rfl,rfl⟩ ⟨rfl,rfl,rfl⟩ ⟨rfl,rfl,rfl⟩ ⟨rfl,rfl,rfl⟩)
 ·cases e
def nx:Env:=nw.add 135 tQ
theorem nz:ae Tryz.prog B nx:=ae.add (iP ad) (tu pm (iP ad) (vY ad) (fn:=Tryz.f135) (by kernel_rfl) (by decide) t135 (EA _ ⟨rfl,rfl,rfl⟩ ⟨rfl,rfl,rfl⟩ ⟨rfl,rfl,rfl⟩))
def nA:Env:=nx.add 136 q5
theorem nB:ae Tryz.prog B nA:=ae.add (nz ad) (ax pm (nz ad) (fn:=Tryz.f136) (by kernel_rfl) (by decide) t136 (El _))
def nC:Env:=nA.add 113 rb
theorem nD:ae Tryz.prog B nC:=ae.add (nB ad) (ax pm (nB ad) (fn:=Tryz.f113) (by kernel_rfl) (by decide) t113 (Ew _ ⟨rfl,rfl,rfl⟩ ⟨rfl,rfl,rfl⟩ ⟨rfl,rfl,rfl⟩ ⟨rfl,rfl,rfl⟩))
def nE:Env:=nC.add 44 hF
theorem nF:ae Tryz.prog B nE:=ae.add (nD ad) (ax pm (nD ad) (fn:=Tryz.f44) (by kernel_rfl) (by decide) t44 (FL _ ⟨rfl,rfl,rfl⟩ ⟨rfl,rfl,rfl⟩ ⟨rfl,rfl,rfl⟩ ⟨rfl,rfl,rfl⟩ ⟨rfl,rfl,rfl⟩))
def nG:Env:=nE.add 25 vK
theorem nH:ae Tryz.prog B nG:=ae.add (nF ad) (ax pm (nF ad) (fn:=Tryz.f25) (by kernel_rfl) (by decide) t25 (Fs _ rfl rfl rfl rfl))
def nI:Env:=nG.add 112 sG
theorem nJ:ae Tryz.prog B nI:=ae.add (nH ad) (ax pm (nH ad) (fn:=Tryz.f112) (by kernel_rfl) (by decide) t112 (Es _ ⟨rfl,rfl,rfl⟩ ⟨rfl,rfl,rfl⟩ ⟨rfl,rfl,rfl⟩ ⟨rfl,rfl,rfl⟩ ⟨rfl,rfl,rfl⟩ ⟨rfl,rfl,rfl⟩))
def nK:Env:=nI.add 79 rF
theorem nL:ae Tryz.prog B nK:=ae.add (nJ ad) (ax pm (nJ ad) (fn:=Tryz.f79) (by kernel_rfl) (by decide) t79 (FN _))
def nM:Env:=nK.add 83 rG
theorem nN:ae Tryz.prog B nM:=ae.add (nL ad) (ax pm (nL ad) (fn:=Tryz.f83) (by kernel_rfl) (by decide) t83 (FO _))
def nO:Env:=nM.add 78 kP
theorem nP:ae Tryz.prog B nO:=ae.add (nN ad) (C8 pm (nN ad) (fn:=Tryz.f78) (by kernel_rfl) (by decide) t78 (FR _ ⟨rfl,rfl,rfl⟩ ⟨rfl,rfl,rfl⟩ ⟨rfl,rfl,rfl⟩ ⟨rfl,rfl,rfl⟩ ⟨rfl,rfl,rfl⟩))
def nQ:Env:=nO.add 40 dm
theorem nR:ae Tryz.prog B nQ:=ae.add (nP ad) (ax pm (nP ad) (fn:=Tryz.f40) (by kernel_rfl) (by decide) t40 (FT _ ⟨rfl,rfl,rfl⟩))
def nS:Env:=nQ.add 42 dB
theorem nT:ae Tryz.prog B nS:=ae.add (nR ad) (ax pm (nR ad) (fn:=Tryz.f42) (by kernel_rfl) (by decide) t42 (FU _ ⟨rfl,rfl,rfl⟩))
def nU:Env:=nS.add 124 iv
theorem nV:ae Tryz.prog B nU:=ae.add (nT ad) (ax pm (nT ad) (fn:=Tryz.f124) (by kernel_rfl) (by decide) t124 (DN _))
def nW:Env:=nU.add 125 px
theorem nX:ae Tryz.prog B nW:=ae.add (nV ad) (ax pm (nV ad) (fn:=Tryz.f125) (by kernel_rfl) (by decide) t125 (DP _))
def nY:Env:=nW.add 88 jn
theorem nZ:ae Tryz.prog B nY:=ae.add (nX ad) (ax pm (nX ad) (fn:=Tryz.f88) (by kernel_rfl) (by decide) t88 (E3 _ rfl rfl rfl rfl))
def n0:Env:=nY.add 76 dT
theorem n1:ae Tryz.prog B n0:=ae.add (nZ ad) (ax pm (nZ ad) (fn:=Tryz.f76) (by kernel_rfl) (by decide) t76 (E5 _ rfl rfl))
def n2:Env:=n0.add 90 uf
theorem n3:ae Tryz.prog B n2:=ae.add (n1 ad) (ax pm (n1 ad) (fn:=Tryz.f90) (by kernel_rfl) (by decide) t90 (E1 _))
def n4:Env:=n2.add 46 fK
theorem n5:ae Tryz.prog B n4:=ae.add (n3 ad) (ax pm (n3 ad) (fn:=Tryz.f46) (by kernel_rfl) (by decide) t46 (E8 _ rfl rfl rfl rfl))
def n6:Env:=n4.add 65 j2
theorem n7:ae Tryz.prog B n6:=ae.add (n5 ad) (ax pm (n5 ad) (fn:=Tryz.f65) (by kernel_rfl) (by decide) t65 (E0 _))
def n8:Env:=n6.add 24 eS
theorem n9:ae Tryz.prog B n8:=ae.add (n7 ad) (ax pm (n7 ad) (fn:=Tryz.f24) (by kernel_rfl) (by decide) t24 (E7 _ rfl rfl))
def oa:Env:=n8.add 19 gN
theorem ob:ae Tryz.prog B oa:=ae.add (n9 ad) (ax pm (n9 ad) (fn:=Tryz.f19) (by kernel_rfl) (by decide) t19 (Fu _))
def oc:Env:=oa.add 17 hr
theorem od:ae Tryz.prog B oc:=ae.add (ob ad) (ax pm (ob ad) (fn:=Tryz.f17) (by kernel_rfl) (by decide) t17 (Fv _ rfl rfl))
def oe:Env:=oc.add 37 hH
theorem og:ae Tryz.prog B oe:=ae.add (od ad) (ax pm (od ad) (fn:=Tryz.f37) (by kernel_rfl) (by decide) t37 (FX _ ⟨rfl,rfl,rfl⟩ ⟨rfl,rfl,rfl⟩ ⟨rfl,rfl,rfl⟩ ⟨rfl,rfl,rfl⟩ ⟨rfl,rfl,rfl⟩ ⟨rfl,rfl,rfl⟩ ⟨rfl,rfl,rfl⟩ ⟨rfl,rfl,rfl⟩))
def oh:Env:=oe.add 77 uw
theorem oi:ae Tryz.prog B oh:=ae.add (og ad) (ax pm (og ad) (fn:=Tryz.f77) (by kernel_rfl) (by decide) t77 (FK _))
def oj:Env:=oh.add 38 gh
theorem om:ae Tryz.prog B oj:=ae.add (oi ad) (ax pm (oi ad) (fn:=Tryz.f38) (by kernel_rfl) (by decide) t38 (FV _ ⟨rfl,rfl,rfl⟩))
def oo:Env:=oj.add 39 hG
theorem oq:ae Tryz.prog B oo:=ae.add (om ad) (ax pm (om ad) (fn:=Tryz.f39) (by kernel_rfl) (by decide) t39 (FW _))
def ou:Env:=oo.add 96 qt
theorem ov:ae Tryz.prog B ou:=ae.add (oq ad) (ax pm (oq ad) (fn:=Tryz.f96) (by kernel_rfl) (by decide) t96 (I2 _))
def ow:Env:=ou.add 55 hc
theorem ox:ae Tryz.prog B ow:=ae.add (ov ad) (ax pm (ov ad) (fn:=Tryz.f55) (by kernel_rfl) (by decide) t55 (Ji _ rfl rfl))
def oy:Env:=ow.add 14 s3
theorem oz:ae Tryz.prog B oy:=ae.add (ox ad) (ax pm (ox ad) (fn:=Tryz.f14) (by kernel_rfl) (by decide) t14 (agu _ rfl rfl))
def oA:Env:=oy.add 48 gM
theorem oB:ae Tryz.prog B oA:=ae.add (oz ad) (ax pm (oz ad) (fn:=Tryz.f48) (by kernel_rfl) (by decide) t48 (E4 _))
def oC:Env:=oA.add 91 iB
theorem oD:ae Tryz.prog B oC:=ae.add (oB ad) (ax pm (oB ad) (fn:=Tryz.f91) (by kernel_rfl) (by decide) t91 (I3 _ rfl rfl))
def oE:Env:=oC.add 89 hY
theorem oF:ae Tryz.prog B oE:=ae.add (oD ad) (ax pm (oD ad) (fn:=Tryz.f89) (by kernel_rfl) (by decide) t89 (IX _ rfl rfl rfl rfl))
def pO:Env:=oE.add 92 fJ
theorem pP:ae Tryz.prog B pO:=ae.add (oF ad) (ax pm (oF ad) (fn:=Tryz.f92) (by kernel_rfl) (by decide) t92 (IZ _))
def rI:Env:=pO.add 93 lx
theorem rJ:ae Tryz.prog B rI:=ae.add (pP ad) (ax pm (pP ad) (fn:=Tryz.f93) (by kernel_rfl) (by decide) t93 (I0 _ rfl rfl rfl rfl rfl rfl))
def re:Env:=rI.add 50 g1
theorem rf:ae Tryz.prog B re:=ae.add (rJ ad) (ax pm (rJ ad) (fn:=Tryz.f50) (by kernel_rfl) (by decide) t50 (Fo _ rfl rfl rfl rfl rfl rfl rfl rfl rfl rfl))
def rh:Env:=re.add 62 qu
theorem ri:ae Tryz.prog B rh:=ae.add (rf ad) (ax pm (rf ad) (fn:=Tryz.f62) (by kernel_rfl) (by decide) t62 (I6 _))
def rj:Env:=rh.add 47 ef
theorem rk:ae Tryz.prog B rj:=ae.add (ri ad) (ax pm (ri ad) (fn:=Tryz.f47) (by kernel_rfl) (by decide) t47 (Jh _ rfl rfl rfl rfl rfl rfl))
def rl:Env:=rj.add 23 uv
theorem rm:ae Tryz.prog B rl:=ae.add (rk ad) (ax pm (rk ad) (fn:=Tryz.f23) (by kernel_rfl) (by decide) t23 (apF _ ⟨rfl,rfl,rfl⟩))
def sH:Env:=rl.add 9 Gk
theorem sI:ae Tryz.prog B sH:=ae.add (rm ad) (ax pm (rm ad) (fn:=Tryz.f9) (by kernel_rfl) (by decide) t9 (arX _ ⟨rfl,rfl,rfl⟩ ⟨rfl,rfl,rfl⟩ ⟨rfl,rfl,rfl⟩ ⟨rfl,rfl,rfl⟩ ⟨rfl,rfl,rfl⟩ ⟨rfl,rfl,rfl⟩ ⟨rfl,rfl,rfl⟩ ⟨rfl,rfl,rfl⟩ ⟨rfl,rfl,rfl⟩ ⟨rfl,rfl,rfl⟩ ⟨rfl,rfl,rfl⟩))
theorem vf:ld Tryz.prog B 9 Gk:=(sI ad).1 9 Gk rfl
end
end RV.Dr
