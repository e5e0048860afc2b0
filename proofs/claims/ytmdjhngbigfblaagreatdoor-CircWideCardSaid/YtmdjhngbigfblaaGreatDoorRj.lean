/- Lemmas for a claim: an abstract machine for the translated code, proved sound, and contracts of functions. By an AI agent. -/
import Derived.Test.YtmdjhngbigfblaaGreatDoorRf
import Derived.Test.YtmdjhngbigfblaaGreatDoorRi
import Derived.Test.YtmdjhngbigfblaaGreatDoorRh
import Derived.Test.YtmdjhngbigfblaaGreatDoorRc
import Derived.Test.YtmdjhngbigfblaaGreatDoorRg
set_option linter.all false
namespace RV.Dr
open Go RV
set_option linter.unusedSimpArgs false
set_option linter.unusedVariables false
set_option maxRecDepth 100000
set_option maxHeartbeats 4000000
theorem Xl:∀(f x:Nat),x<2^f→Lib.bitLenAux f x=bp x
 |0,x,h=>by
  have:x=0:=by simpa using h
  subst this;rfl
 |f+1,x,h=>by
  by_cases h0:x=0
  ·subst h0;simp[Lib.bitLenAux,eE]
  ·simp only[Lib.bitLenAux,if_neg h0]
   rw[Xl f (x / 2) (by rw[Nat.pow_succ]at h;omega),Yw h0,Nat.add_comm]
theorem ajK {n:Nat} (h:n<2^64):Lib.bitLen n=bp n:=Xl 64 n h
def wW:bC where
 pre:=fun ds=>∃x:Int,ds=[.int .u64 x]∧0≤x∧x<18446744073709551616
 res:=fun ds=>match ds with
  |[.int _ x]=> .int .i64 (bp x.toNat)
  |_=> .nilp
theorem Dk (B:Mem):ld Go.Proofs.Tryz.prog B 144 wW:=by
 refine⟨⟨Go.Proofs.Tryz.f144,by kernel_rfl,by decide,by decide⟩,?_⟩
 rintro ds ⟨x,rfl,h0,h1⟩ w rd vs _ _ ar
 simp only[bV,bA]at ar
 obtain⟨v,us,aC,rfl,rfl⟩:=ar
 have Il:vs= #[.int .u64 x]:=by rw[←Array.toList_inj];exact aC
 subst Il
 refine(Go.Proofs.Tryz.OY x w h0 (by omega)).mono ?_
 rintro e w' ⟨rfl,rfl⟩
 refine⟨_,rfl,RowKit.Below.refl _ _,fun _=> ?_,fun h=>by cases h⟩
 simp only[bA,wW]
 rw[ajK (by omega)]
theorem Ey (Γ:Env) (f144:Γ.fn 144=some wW) (anq:Γ.mt 144=none) (ds:List D) (h:vr.pre ds):bT Γ RX RY ds fun d=>d=vr.res ds:=by
 obtain⟨x,rfl,h0,h1⟩:=h
 simp (maxSteps:=2000000) only[↓al,ak,↓reduceIte,reduceCtorEq,Nat.reduceEqDiff,Nat.reduceLeDiff,Nat.reduceSub,Nat.reduceAdd,Int.reduceToNat,Nat.reducePow,Int.reducePow,Int.reduceLE,Int.reduceLT,IntKind.bits,RX,RY,vr,f144,anq,wW]
 exact⟨x,rfl,h0,h1⟩
def Jt (p:dI):List ai:=[.d (.bool p.c.lo.neg),.d (.ints .i64 (ao p.c.lo.m)),.d (.int .i64 p.c.lo.e),.d (.bool p.c.hi.neg),.d (.ints .i64 (ao p.c.hi.m)),.d (.int .i64 p.c.hi.e),.d (.bool p.s.lo.neg),.d (.ints .i64 (ao p.s.lo.m)),.d (.int .i64 p.s.lo.e),.d (.bool p.s.hi.neg),.d (.ints .i64 (ao p.s.hi.m)),.d (.int .i64 p.s.hi.e)]
def xA (p:dI) (s:St):Prop:=s.ag 4= .box 4 0∧∃e,s.az 4=some ⟨false,e,.cells [.d (.bool p.c.lo.neg),.d (.ints .i64 (ao p.c.lo.m)),.d (.int .i64 p.c.lo.e),.d (.bool p.c.hi.neg),.d (.ints .i64 (ao p.c.hi.m)),.d (.int .i64 p.c.hi.e),.d (.bool p.s.lo.neg),.d (.ints .i64 (ao p.s.lo.m)),.d (.int .i64 p.s.lo.e),.d (.bool p.s.hi.neg),.d (.ints .i64 (ao p.s.hi.m)),.d (.int .i64 p.s.hi.e)]⟩
theorem Ez (Γ:Env) (Mn:Γ.has 151 qj) (aen:Γ.has 156 ra) (VU:Γ.has 31 kM) (FM:Γ.has 27 jr) (ds:List D) (h:BF.pre ds) (M L:Nat):DB Γ (BF.seq ds) M L SE ds:=by
 obtain⟨w,rfl,fr,gg⟩:=h
 have eN:∀k,BF.seq [.ptr [.int .i64 w]] k=some [dX (aC w k)]:=fun k=>rfl
 generalize BF.seq [.ptr [.int .i64 w]]=E at eN⊢
 have tb:(vH L [.ptr [.int .i64 w]]).ag 0= .dF L:=rfl
 have s1:(vH L [.ptr [.int .i64 w]]).ag 1= .d (.ptr [.int .i64 w]):=rfl
 unfold DB SE
 generalize vH L [.ptr [.int .i64 w]]=s at tb s1⊢
 obtain⟨o,bu⟩:∃o,o=i1:=⟨_,rfl⟩
 have wh:o.win (-(2*w+16)) 8:=bu▸Ev (by omega) (by omega)
 have p1:qj.pre []:=rfl
 have bX:qj.res []=aA o:=by rw[bu];rfl
 unfold aA aZ at bX
 have key:∀(x:bP),x.win (-(2*w+16)) 9→ra.pre [.agg [.bool x.lo.neg,.ints .i64 (ao x.lo.m),.int .i64 x.lo.e,.bool x.hi.neg,.ints .i64 (ao x.hi.m),.int .i64 x.hi.e],.ptr [.int .i64 w]]∧
  ra.res [.agg [.bool x.lo.neg,.ints .i64 (ao x.lo.m),.int .i64 x.lo.e,.bool x.hi.neg,.ints .i64 (ao x.hi.m),.int .i64 x.hi.e],.ptr [.int .i64 w]]=aA (gI x w):=fun x aj=>
  ⟨⟨x,w,rfl,gv aj (by omega) (by omega),fr,by omega⟩,by simp only[ra,dq]⟩
 refine tm (fun s=>s.ag 0= .dF L∧s.ag 3= .d (.fn 156 [] [.ptr [.int .i64 w]])) rfl ?_ ?_
 ·simp (maxSteps:=2000000) only[↓al,ak,↓reduceIte,reduceCtorEq,Nat.reduceEqDiff,Nat.reduceLeDiff,Nat.reduceSub,Nat.reduceAdd,Int.reduceToNat,Nat.reducePow,Int.reducePow,Int.reduceLE,Int.reduceLT,IntKind.bits,tb,s1]
 clear tb s1
 rintro s ⟨h0,aq⟩
 refine tm (fun s=>s.ag 0= .dF L∧s.ag 3= .d (.fn 156 [] [.ptr [.int .i64 w]])∧xA (aC w 0) s) rfl ?_ ?_
 ·obtain⟨cU,ch⟩:=key o (gv wh (by omega) (by omega))
  have cm:aC w 0=⟨gI o w,gI o w⟩:=by rw[bu];rfl
  rw[cm]
  unfold aA aZ at ch
  generalize gI o w=z at ch⊢
  simp (maxSteps:=2000000) only[↓al,ak,↓reduceIte,reduceCtorEq,Nat.reduceEqDiff,Nat.reduceLeDiff,Nat.reduceSub,Nat.reduceAdd,Int.reduceToNat,Nat.reducePow,Int.reducePow,Int.reduceLE,Int.reduceLT,IntKind.bits,h0,aq,Mn,p1,bX,aen,cU,ch,xA,Hg,GP]
  first|done|((repeat' apply And.intro)<;>first|assumption|with_reducible rfl|omega|(simp only[aO];omega)|exact⟨_,rfl⟩|exact⟨_,_,_,rfl⟩|exact⟨_,_,_,_,_,_,rfl⟩)
 clear h0 aq
 rintro s ⟨h0,aq,aE⟩
 refine GG ?_
 refine OT (fun z s=>∃k:Nat,z=⟨k,true⟩∧s.ag 0= .dF L∧s.ag 3= .d (.fn 156 [] [.ptr [.int .i64 w]])∧xA (aC w k) s) (fun z _=>M - z.k) ⟨0,rfl,h0,aq,aE⟩ ?_
 clear h0 aq aE
 rintro z s ⟨k,rfl,h0,aq,aE⟩
 refine CZ (fun z s=>z=⟨k+1,true⟩∧k+1<M∧s.ag 0= .dF L∧s.ag 3= .d (.fn 156 [] [.ptr [.int .i64 w]])∧xA (aC w k) s) ?_ ?_
 ·refine CZ (fun z s=>(z=⟨k+1,true⟩∧k+1<M∧s.ag 15= .d (.bool true)∧s.ag 0= .dF L∧s.ag 3= .d (.fn 156 [] [.ptr [.int .i64 w]])∧xA (aC w k) s)∨(z=⟨k,false⟩∧s.ag 15= .d (.bool false))) ?_ ?_
  rotate_left
  ·clear h0 aq aE
   rintro z s (⟨rfl,cJ,hq,h0,aq,aE⟩|⟨rfl,hq⟩)
   ·refine qJ _ rfl ?_
    simp (maxSteps:=2000000) only[↓al,ak,↓reduceIte,reduceCtorEq,Nat.reduceEqDiff,Nat.reduceLeDiff,Nat.reduceSub,Nat.reduceAdd,Int.reduceToNat,Nat.reducePow,Int.reducePow,Int.reduceLE,Int.reduceLT,IntKind.bits,hq]
    exact⟨cJ,h0,aq,aE⟩
   ·refine qJ _ rfl ?_
    simp (maxSteps:=2000000) only[↓al,ak,↓reduceIte,reduceCtorEq,Nat.reduceEqDiff,Nat.reduceLeDiff,Nat.reduceSub,Nat.reduceAdd,Int.reduceToNat,Nat.reducePow,Int.reducePow,Int.reduceLE,Int.reduceLT,IntKind.bits,hq]
  show h9 Γ E M L _ _ _ _
  have Jr:=eN k
  generalize aC w k=p at Jr aE⊢
  refine Yt 2 (fun s=>s.ag 13= .dF L∧s.ag 14= .agg (Jt p)∧s.ag 0= .dF L∧s.ag 3= .d (.fn 156 [] [.ptr [.int .i64 w]])∧xA p s) rfl ?_ ?_
  ·simp only[List.take_succ_cons,List.take_zero]
   obtain⟨aE,cW,aS⟩:=aE
   simp (maxSteps:=2000000) only[↓al,ak,↓reduceIte,reduceCtorEq,Nat.reduceEqDiff,Nat.reduceLeDiff,Nat.reduceSub,Nat.reduceAdd,Int.reduceToNat,Nat.reducePow,Int.reducePow,Int.reduceLE,Int.reduceLT,IntKind.bits,h0,aq,aE,aS,Hg,GP,xA,Jt]
   first|done|((repeat' apply And.intro)<;>first|assumption|with_reducible rfl|omega|(simp only[aO];omega)|exact⟨_,rfl⟩|exact⟨_,_,_,rfl⟩|exact⟨_,_,_,_,_,_,rfl⟩)
  clear h0 aq aE
  rintro s ⟨cH,dz,h0,aq,aE⟩
  show h9 Γ E M L _ [⟨some 15,.hS (.t 13) [.t 14],none⟩] _ _
  have agy:cG s [.t 14]=[.agg (Jt p)]:=by simp only[cG,List.map_cons,List.map_nil,St.a3,dz]
  refine Xx (ds:=[dX p]) cH (by rw[agy];rfl) (by rw[agy];rfl) rfl Jr (fun cJ=> ?_) ?_
  ·have s8:=Yu h0
   have bn:=y0 aq
   obtain⟨aE,cW,aS⟩:=aE
   have h5:=Yv aE aS rfl
   have uE:=ZB aS rfl
   have cJ:k+1<M:=cJ
   generalize s.still=dM at s8 bn h5 uE⊢
   refine AB rfl ?_
   simp (maxSteps:=2000000) only[↓al,ak,↓reduceIte,reduceCtorEq,Nat.reduceEqDiff,Nat.reduceLeDiff,Nat.reduceSub,Nat.reduceAdd,Int.reduceToNat,Nat.reducePow,Int.reducePow,Int.reduceLE,Int.reduceLT,IntKind.bits,s8,bn,h5,uE,xA,cJ]
   first|done|(exact .inl ⟨_,rfl⟩)|(simp;done)
  ·refine AB rfl ?_
   simp (maxSteps:=2000000) only[↓al,ak,↓reduceIte,reduceCtorEq,Nat.reduceEqDiff,Nat.reduceLeDiff,Nat.reduceSub,Nat.reduceAdd,Int.reduceToNat,Nat.reducePow,Int.reducePow,Int.reduceLE,Int.reduceLT,IntKind.bits]
   first|done|(simp;done)
 ·clear h0 aq aE
  rintro z s ⟨rfl,cJ,h0,aq,aE,cW,aS⟩
  refine qJ _ rfl (j7 _ (fun e s aG=> ?_) (?_:cp Γ _ (fun e s=>match e with| .normal=>s.ag 0= .dF L∧s.ag 3= .d (.fn 156 [] [.ptr [.int .i64 w]])∧xA (aC w (k+1)) s|_=>False) s))
  ·cases e with
   |normal=>exact⟨⟨k+1,rfl,aG.1,aG.2.1,aG.2.2⟩,by show M - (k+1)<M - k;omega⟩
   |exit j=>exact aG.elim
   |ret=>exact aG.elim
  have af:=(zr fr k).1
  have b1:=tz wh af
  have ep:=tz wh (r8 af)
  obtain⟨cU,ch⟩:=key (dJ o (aC w k).c) (gv b1 (by omega) (by omega))
  obtain⟨gT,gS⟩:=key (dJ o (dd (aC w k).c)) (gv ep (by omega) (by omega))
  have ek:aC w (k+1)=⟨gI (dJ o (aC w k).c) w,gI (dJ o (dd (aC w k).c)) w⟩:=by rw[bu];rfl
  rw[ek]
  generalize aC w k=p at*
  have pa:kM.pre [aA o,aA p.c]:=⟨o,p.c,rfl,gv wh (by omega) (by omega),gv af (by omega) (by omega)⟩
  have oR:kM.res [aA o,aA p.c]=aA (dJ o p.c):=by simp only[kM,aA,aZ,dq]
  have kY:jr.pre [aA p.c]:=⟨p.c,rfl,gv af (by omega) (by omega)⟩
  have iY:jr.res [aA p.c]=aA (dd p.c):=by simp only[jr,aA,aZ,dq]
  have tc:kM.pre [aA o,aA (dd p.c)]:=⟨o,dd p.c,rfl,gv wh (by omega) (by omega),gv (r8 af) (by omega) (by omega)⟩
  have wi:kM.res [aA o,aA (dd p.c)]=aA (dJ o (dd p.c)):=by simp only[kM,aA,aZ,dq]
  clear eN key b1 ep ek bu
  generalize dJ o p.c=u at*
  generalize dd p.c=v at*
  generalize dJ o v=t at*
  generalize gI u w=x at*
  generalize gI t w=y at*
  unfold aA aZ at pa oR kY iY tc wi ch gS
  simp (maxSteps:=2000000) only[↓al,ak,↓reduceIte,reduceCtorEq,Nat.reduceEqDiff,Nat.reduceLeDiff,Nat.reduceSub,Nat.reduceAdd,Int.reduceToNat,Nat.reducePow,Int.reducePow,Int.reduceLE,Int.reduceLT,IntKind.bits,h0,aq,aE,aS,Mn,p1,bX,aen,cU,ch,gT,gS,VU,pa,oR,tc,wi,FM,kY,iY,xA]
  first|done|((repeat' apply And.intro)<;>first|assumption|with_reducible rfl|omega|(simp only[aO];omega)|exact⟨_,rfl⟩|exact⟨_,_,_,rfl⟩|exact⟨_,_,_,_,_,_,rfl⟩)
theorem acp (K k:Nat):lb .i64 ((K:Int).fdiv (2^k)) 1=((K / 2^k % 2:Nat):Int):=by
 rw[ZM,show (2:Int)^k=((2^k:Nat):Int)from (Int.natCast_pow 2 k).symm,Int.fdiv_eq_ediv_of_nonneg _ (Int.natCast_nonneg _),←Int.natCast_ediv]
 omega
theorem ZT (K Q w:Int) (k q:Nat) (p:dI):rE K Q w (k+1) q p=rE K Q w k (q+1) (if (K.toNat / 2^(Q.toNat - q)) % 2=1 then tC p (aC w (q - 3)) w else p):=rfl
def qU:Nat→Option qG:=fun f=>if f=155 then some BF else none
def yK (K Q q w:Int) (p:dI) (s:St):Prop:=s.ag 2= .box 2 0∧s.az 2=some ⟨false,false,.cells [.d (.int .i64 K),.d (.int .i64 Q)]⟩∧s.ag 3= .box 3 0∧s.az 3=some ⟨false,false,.cells [.d (.int .i64 w)]⟩∧h6 s∧h4 5 p s∧s.ag 6= .box 6 0∧s.az 6=some ⟨false,false,.cells [.d (.int .i64 q)]⟩
theorem EA (Γ:Env) (Mn:Γ.has 151 qj) (anr:Γ.has 152 tR) (ans:Γ.has 153 q9) (ds:List D) (h:tQ.pre ds):Dz Γ qU R7 R8 ds fun d=>d=tQ.res ds:=by
 obtain⟨a,w,rfl,a9,cK,fr,gg⟩:=h
 have cu:tQ.res [iW a,.int .i64 w]=dX (rest (bS a) (a2 a) w):=rfl
 rw[cu]
 have JP:iW a=cq (bS a) (a2 a):=rfl
 rw[JP]
 have cj:=LG (a:=a) (by omega)
 generalize bS a=K at*
 generalize a2 a=Q at*
 clear JP cu
 unfold Dz R7
 refine xQ (fun s=>s.ag 2= .box 2 0∧s.az 2=some ⟨false,false,.cells [.d (.int .i64 K),.d (.int .i64 Q)]⟩∧s.ag 3= .box 3 0∧s.az 3=some ⟨false,false,.cells [.d (.int .i64 w)]⟩∧h6 s) ?_ ?_
 ·show cp Γ _ _ _
  simp (maxSteps:=2000000) only[↓al,ak,↓reduceIte,reduceCtorEq,Nat.reduceEqDiff,Nat.reduceLeDiff,Nat.reduceSub,Nat.reduceAdd,Int.reduceToNat,Nat.reducePow,Int.reducePow,Int.reduceLE,Int.reduceLT,IntKind.bits,cq,h6]
 rintro s ⟨h2,aR,aq,aW,aE,aS⟩
 have p1:qj.pre []:=rfl
 obtain⟨o,bu⟩:∃o,o=i1:=⟨_,rfl⟩
 have bX:qj.res []=aA o:=by rw[bu];rfl
 unfold aA aZ at bX
 refine xQ (fun s=>s.ag 2= .box 2 0∧s.az 2=some ⟨false,false,.cells [.d (.int .i64 K),.d (.int .i64 Q)]⟩∧s.ag 3= .box 3 0∧s.az 3=some ⟨false,false,.cells [.d (.int .i64 w)]⟩∧h6 s∧h4 5 p0 s) ?_ ?_
 ·show cp Γ _ _ _
  have cm:p0=⟨o,⟨⟨false,0,0⟩,⟨false,0,0⟩⟩⟩:=by rw[bu];rfl
  rw[cm]
  simp (maxSteps:=2000000) only[↓al,ak,↓reduceIte,reduceCtorEq,Nat.reduceEqDiff,Nat.reduceLeDiff,Nat.reduceSub,Nat.reduceAdd,Int.reduceToNat,Nat.reducePow,Int.reducePow,Int.reduceLE,Int.reduceLT,IntKind.bits,h2,aR,aq,aW,aE,aS,h6,h4,Mn,p1,bX,hk]
 clear h2 aR aq aW aE aS
 rintro s ⟨h2,aR,aq,aW,⟨aE,aS⟩,aF,bm⟩
 refine xQ (yK K Q 3 w p0) ?_ ?_
 ·show cp Γ _ _ _
  simp (maxSteps:=2000000) only[↓al,ak,↓reduceIte,reduceCtorEq,Nat.reduceEqDiff,Nat.reduceLeDiff,Nat.reduceSub,Nat.reduceAdd,Int.reduceToNat,Nat.reducePow,Int.reducePow,Int.reduceLE,Int.reduceLT,IntKind.bits,h2,aR,aq,aW,aE,aS,aF,bm,h6,h4,yK]
 clear h2 aR aq aW aE aS aF bm p1 bX bu
 rintro s ⟨h2,aR,aq,aW,⟨aE,aS⟩,⟨aF,bm⟩,aN,a8⟩
 obtain⟨R,en⟩:∃R,R=rest K Q w:=⟨_,rfl⟩
 obtain⟨n,aQ⟩:∃n,n=((Q:Int) - 2).toNat:=⟨_,rfl⟩
 have Ce:R=rE K Q w n 3 p0:=by rw[en,aQ];rfl
 rw[←en]
 refine xQ (fun s=>h6 s∧h4 5 R s) ?_ ?_
 ·refine xQ (fun s=>s.ag 11= .d (.fn 155 [] [.ptr [.int .i64 w]])∧yK K Q 3 w p0 s) ?_ ?_
  ·show cp Γ _ _ _
   have hN:tR.pre [.int .i64 w]:=⟨w,rfl⟩
   have rc:tR.res [.int .i64 w]= .fn 155 [] [.ptr [.int .i64 w]]:=rfl
   simp (maxSteps:=2000000) only[↓al,ak,↓reduceIte,reduceCtorEq,Nat.reduceEqDiff,Nat.reduceLeDiff,Nat.reduceSub,Nat.reduceAdd,Int.reduceToNat,Nat.reducePow,Int.reducePow,Int.reduceLE,Int.reduceLT,IntKind.bits,h2,aR,aq,aW,aE,aS,aF,bm,aN,a8,h6,h4,yK,anr,hN,rc]
  clear h2 aR aq aW aE aS aF bm aN a8
  rintro s ⟨cB,h2,aR,aq,aW,⟨aE,aS⟩,⟨aF,bm⟩,aN,a8⟩
  have oL:qU 155=some BF:=rfl
  have HW:∀k,BF.seq [.ptr [.int .i64 w]] k=some [dX (aC w k)]:=fun k=>rfl
  simp only[iM,St.a3,cB,oL]
  refine⟨⟨w,rfl,fr,gg⟩,fun k s=>∃p:dI,k≤n∧rE K Q w (n - k) (k+3) p=R∧p.win (-((k:Int)*(2*w+16))) (1+10*k)∧yK K Q (k+3:Nat) w p s,20,by omega,⟨p0,by omega,Ce.symm,?_,?_,?_,?_,?_,⟨?_,?_⟩,⟨?_,?_⟩,?_,?_⟩,?_,?_⟩
  ·refine SK (by omega) (by omega)
  ·simp only[St.only];rw[if_neg (by decide)];exact h2
  ·exact aR
  ·simp only[St.only];rw[if_neg (by decide)];exact aq
  ·exact aW
  ·simp only[St.only];rw[if_neg (by decide)];exact aE
  ·exact aS
  ·simp only[St.only];rw[if_neg (by decide)];exact aF
  ·exact bm
  ·simp only[St.only];rw[if_neg (by decide)];exact aN
  ·exact a8
  ·clear cB h2 aR aq aW aE aS aF bm aN a8
   rintro k xs s af pL ⟨p,zV,gd,qy,h2,aR,aq,aW,⟨aE,aS⟩,⟨aF,bm⟩,aN,a8⟩
   rw[HW]at pL
   simp only[Option.some.injEq]at pL
   subst pL
   refine⟨rfl,?_⟩
   have r2:=zr fr k
   have ap2:(k:Int)*(2*w+16)≤12*(2*w+16):=Int.mul_le_mul_of_nonneg_right (by omega) (by omega)
   have ant:0≤(k:Int)*(2*w+16):=Int.mul_nonneg (by omega) (by omega)
   obtain⟨q,a7⟩:∃q,q=aC w k:=⟨_,rfl⟩
   rw[←a7]at r2⊢
   simp only[HM]
   have Ja:((s.put (some 12) (dn (dX q))).ag 12)= .agg (Jt q):=rfl
   have bc:(s.put (some 12) (dn (dX q))).ag 2= .box 2 0:=h2
   have c8:(s.put (some 12) (dn (dX q))).ag 3= .box 3 0:=aq
   have cW:(s.put (some 12) (dn (dX q))).ag 4= .box 4 0:=aE
   have eg:(s.put (some 12) (dn (dX q))).ag 5= .box 5 0:=aF
   have fA:(s.put (some 12) (dn (dX q))).ag 6= .box 6 0:=aN
   have f2:(s.put (some 12) (dn (dX q))).az 2=_:=aR
   have f3:(s.put (some 12) (dn (dX q))).az 3=_:=aW
   have f4:(s.put (some 12) (dn (dX q))).az 4=_:=aS
   have f5:(s.put (some 12) (dn (dX q))).az 5=_:=bm
   have f6:(s.put (some 12) (dn (dX q))).az 6=_:=a8
   generalize s.put (some 12) (dn (dX q))=t at Ja bc c8 cW eg fA f2 f3 f4 f5 f6⊢
   clear h2 aR aq aW aE aS aF bm aN a8 s
   refine wE (fun s=>yK K Q (k+3:Nat) w p s∧h4 7 q s) ?_ ?_
   ·simp (maxSteps:=2000000) only[↓al,ak,↓reduceIte,reduceCtorEq,Nat.reduceEqDiff,Nat.reduceLeDiff,Nat.reduceSub,Nat.reduceAdd,Int.reduceToNat,Nat.reducePow,Int.reducePow,Int.reduceLE,Int.reduceLT,IntKind.bits,bc,c8,cW,eg,fA,f2,f3,f4,f5,f6,Ja,Jt,yK,h6,h4]
   clear bc c8 cW eg fA f2 f3 f4 f5 f6 Ja t
   rintro s ⟨⟨h2,aR,aq,aW,⟨aE,aS⟩,⟨aF,bm⟩,aN,a8⟩,aM,bb⟩
   show cp Γ _ _ s
   by_cases Ge:((k+3:Nat):Int)>(Q:Int)
   ·have cm:n - k=0:=by omega
    rw[cm]at gd
    have gd:p=R:=gd
    subst gd
    simp (maxSteps:=2000000) only[↓al,ak,↓reduceIte,reduceCtorEq,Nat.reduceEqDiff,Nat.reduceLeDiff,Nat.reduceSub,Nat.reduceAdd,Int.reduceToNat,Nat.reducePow,Int.reducePow,Int.reduceLE,Int.reduceLT,IntKind.bits,h2,aR,aq,aW,aE,aS,aF,bm,aN,a8,aM,bb,Ge,h6,h4,K9,La,List.contains_cons,List.contains_nil,Nat.reduceBEq,Nat.reduceBeqDiff,Bool.or_false,Bool.false_eq_true]
   ·have bw:k<n:=by omega
    have asF:¬((k:Int)+3>(Q:Int)):=by omega
    have es:(Q:Int) - ((k+3:Nat):Int)=((Q - (k+3):Nat):Int):=by omega
    have Cm:Q - (k+3)≤64:=by omega
    have aw:=acp K (Q - (k+3))
    have dk:((1:Int)==1)=true:=rfl
    have VX:((0:Int)==1)=false:=rfl
    have fj:rE K Q w (n - (k+1)) (k+1+3) (if (K / 2^(Q - (k+3))) % 2=1 then tC p q w else p)=R:=by
     rw[←gd,show n - k=n - (k+1)+1 by omega,ZT,Int.toNat_natCast,Int.toNat_natCast,show k+3 - 3=k by omega,←a7]
    rcases (by omega:K / 2^(Q - (k+3)) % 2=1∨K / 2^(Q - (k+3)) % 2=0)with au|au
    ·rw[au]at aw
     rw[if_pos au]at fj
     have aw:lb .i64 ((K:Int).fdiv (2^(Q - (k+3)))) 1=1:=aw
     have agz:q9.pre [dX p,dX q,.int .i64 w]:=⟨p,q,w,rfl,wM qy (by omega) (by omega),wM r2 (by omega) (by omega),fr,by omega⟩
     have agA:q9.res [dX p,dX q,.int .i64 w]=dX (tC p q w):=by simp only[q9,Dj]
     have iL:=wM (PZ qy r2 fr) (lo':= -(((k+1:Nat):Int)*(2*w+16))) (hi':=1+10*((k+1:Nat):Int)) (by rw[Int.natCast_add,Int.add_mul];omega) (by omega)
     generalize tC p q w=z at*
     unfold dX aZ at agz agA
     simp (maxSteps:=2000000) only[↓al,ak,↓reduceIte,reduceCtorEq,Nat.reduceEqDiff,Nat.reduceLeDiff,Nat.reduceSub,Nat.reduceAdd,Int.reduceToNat,Nat.reducePow,Int.reducePow,Int.reduceLE,Int.reduceLT,IntKind.bits,h2,aR,aq,aW,aE,aS,aF,bm,aN,a8,aM,bb,Ge,es,Cm,aw,dk,ans,agz,agA,h6,h4,yK,K9,La,List.contains_cons,List.contains_nil,Nat.reduceBEq,Nat.reduceBeqDiff,Bool.or_false,Bool.false_eq_true]
     exact⟨by simp only[aO];omega,by omega,by simp only[aO];omega,⟨z,by omega,fj,iL,rfl,by rw[show ((k+3:Nat):Int)+1=((k+1+3:Nat):Int)by omega]⟩,by omega⟩
    ·rw[au]at aw
     rw[if_neg (by omega)]at fj
     have aw:lb .i64 ((K:Int).fdiv (2^(Q - (k+3)))) 1=0:=aw
     have iL:=wM qy (lo':= -(((k+1:Nat):Int)*(2*w+16))) (hi':=1+10*((k+1:Nat):Int)) (by rw[Int.natCast_add,Int.add_mul];omega) (by omega)
     simp (maxSteps:=2000000) only[↓al,ak,↓reduceIte,reduceCtorEq,Nat.reduceEqDiff,Nat.reduceLeDiff,Nat.reduceSub,Nat.reduceAdd,Int.reduceToNat,Nat.reducePow,Int.reducePow,Int.reduceLE,Int.reduceLT,IntKind.bits,h2,aR,aq,aW,aE,aS,aF,bm,aN,a8,aM,bb,Ge,es,Cm,aw,VX,h6,h4,yK,K9,La,List.contains_cons,List.contains_nil,Nat.reduceBEq,Nat.reduceBeqDiff,Bool.or_false,Bool.false_eq_true]
     exact⟨by simp only[aO];omega,by omega,by simp only[aO];omega,⟨p,by omega,fj,iL,rfl,by rw[show ((k+3:Nat):Int)+1=((k+1+3:Nat):Int)by omega]⟩,by omega⟩
  ·rintro k s pL _
   rw[HW]at pL
   cases pL
 ·clear h2 aR aq aW aE aS aF bm aN a8
  rintro s ⟨⟨aE,aS⟩,aF,bm⟩
  show cp Γ _ _ _
  simp (maxSteps:=2000000) only[↓al,ak,↓reduceIte,reduceCtorEq,Nat.reduceEqDiff,Nat.reduceLeDiff,Nat.reduceSub,Nat.reduceAdd,Int.reduceToNat,Nat.reducePow,Int.reducePow,Int.reduceLE,Int.reduceLT,IntKind.bits,R8,aE,aS,aF,bm,dX,aZ]
def uy:bC where
 pre:=fun ds=>∃x y:bP,ds=[aA x,aA y]∧hj x∧hj y
 res:=fun ds=>match ds with
  |[p,q]=> .bool (decide (ej (fe p).lo (fe q).hi≤0) && decide (ej (fe q).lo (fe p).hi≤0))
  |_=> .nilp
theorem ap3 (Γ:Env) (jJ:Γ.has 47 ef) (ds:List D) (h:uy.pre ds):bT Γ Nd Nf ds fun d=>d=uy.res ds:=by
 obtain⟨x,y,rfl,aj,hy⟩:=h
 by_cases h1:ej x.lo y.hi≤0
 ·simp (maxSteps:=2000000) only[↓al,ak,↓reduceIte,reduceCtorEq,Nat.reduceEqDiff,Nat.reduceLeDiff,Nat.reduceSub,Nat.reduceAdd,Int.reduceToNat,Nat.reducePow,Int.reducePow,Int.reduceLE,Int.reduceLT,IntKind.bits,Nd,Nf,uy,aA,dq,jJ,ef,cd,aI,h1,Bool.true_and]
  exact⟨⟨x.lo,y.hi,rfl,aj.1,hy.2⟩,⟨y.lo,x.hi,rfl,hy.1,aj.2⟩⟩
 ·simp (maxSteps:=2000000) only[↓al,ak,↓reduceIte,reduceCtorEq,Nat.reduceEqDiff,Nat.reduceLeDiff,Nat.reduceSub,Nat.reduceAdd,Int.reduceToNat,Nat.reducePow,Int.reducePow,Int.reduceLE,Int.reduceLT,IntKind.bits,Nd,Nf,uy,aA,dq,jJ,ef,cd,aI,h1,Bool.false_and]
  exact⟨x.lo,y.hi,rfl,aj.1,hy.2⟩
def rF:bC where
 pre:=fun ds=>∃p:dI,ds=[dX p]
 res:=fun ds=>match ds with
  |[p]=>aA (uC p).c
  |_=> .nilp
theorem FN (Γ:Env) (ds:List D) (h:rF.pre ds):bT Γ UR US ds fun d=>d=rF.res ds:=by
 obtain⟨p,rfl⟩:=h
 have cu:rF.res [dX p]=aA p.c:=by simp only[rF,Dj]
 rw[cu]
 simp (maxSteps:=2000000) only[↓al,ak,↓reduceIte,reduceCtorEq,Nat.reduceEqDiff,Nat.reduceLeDiff,Nat.reduceSub,Nat.reduceAdd,Int.reduceToNat,Nat.reducePow,Int.reducePow,Int.reduceLE,Int.reduceLT,IntKind.bits,UR,US,dX,aA]
def rG:bC where
 pre:=fun ds=>∃p:dI,ds=[dX p]
 res:=fun ds=>match ds with
  |[p]=>aA (uC p).s
  |_=> .nilp
theorem FO (Γ:Env) (ds:List D) (h:rG.pre ds):bT Γ U0 U1 ds fun d=>d=rG.res ds:=by
 obtain⟨p,rfl⟩:=h
 have cu:rG.res [dX p]=aA p.s:=by simp only[rG,Dj]
 rw[cu]
 simp (maxSteps:=2000000) only[↓al,ak,↓reduceIte,reduceCtorEq,Nat.reduceEqDiff,Nat.reduceLeDiff,Nat.reduceSub,Nat.reduceAdd,Int.reduceToNat,Nat.reducePow,Int.reducePow,Int.reduceLE,Int.reduceLT,IntKind.bits,U0,U1,dX,aA]
end RV.Dr
namespace RR
theorem Ku (x:Rat):0≤x*x:=by
 by_cases h:0≤x
 ·exact Rat.mul_nonneg h h
 ·have:0≤(-x)*(-x):=Rat.mul_nonneg (by grind) (by grind)
  grind
theorem P3 {a x B e:Rat} (h1: -B<a) (h2:a<B) (aq: -e<x) (aE:x<e): -(B*e)<a*x∧a*x<B*e:=by
 have p1:0<(B - a)*(e+x):=Rat.mul_pos (by grind) (by grind)
 have cU:0<(B+a)*(e - x):=Rat.mul_pos (by grind) (by grind)
 have gT:0<(B - a)*(e - x):=Rat.mul_pos (by grind) (by grind)
 have Aq:0<(B+a)*(e+x):=Rat.mul_pos (by grind) (by grind)
 constructor<;>grind
def gQ (f:Nat→Rat):Prop:=∀ε:Rat,0<ε→∃N,∀m n,N≤m→N≤n→f m - f n<ε
def ik (f:Nat→Rat):Prop:=∀ε:Rat,0<ε→∃N,∀n,N≤n→-ε<f n∧f n<ε
theorem gQ.bound {f:Nat→Rat} (h:gQ f):∃B:Rat,0<B∧∃N,∀n,N≤n→-B<f n∧f n<B:=by
 obtain⟨N,cb⟩:=h 1 (by decide)
 have s:=Ku (f N)
 have s1:=Ku (f N - 1)
 have s2:=Ku (f N+1)
 refine⟨f N*f N+2,by grind,N,fun n aQ=> ?_⟩
 have a:=cb n N aQ (Nat.le_refl _)
 have b:=cb N n (Nat.le_refl _) aQ
 constructor<;>grind
theorem ik.add {f g:Nat→Rat} (hf:ik f) (bh:ik g):ik fun n=>f n+g n:=fun ε h=>by
 obtain⟨N,cb⟩:=hf (ε / 2) (by grind)
 obtain⟨M,cJ⟩:=bh (ε / 2) (by grind)
 refine⟨max N M,fun n aQ=> ?_⟩
 have:=cb n (by omega)
 have:=cJ n (by omega)
 constructor<;>grind
theorem ik.neg {f:Nat→Rat} (hf:ik f):ik fun n=> -f n:=fun ε h=>by
 obtain⟨N,cb⟩:=hf ε h
 refine⟨N,fun n aQ=> ?_⟩
 have:=cb n aQ
 constructor<;>grind
theorem ik.mul {f g:Nat→Rat} (hf:gQ f) (bh:ik g):ik fun n=>f n*g n:=fun ε h=>by
 obtain⟨B,ad,N,cb⟩:=hf.bound
 obtain⟨M,cJ⟩:=bh (ε / B) (by rw[Rat.div_def];exact Rat.mul_pos h (Rat.inv_pos.2 ad))
 refine⟨max N M,fun n aQ=> ?_⟩
 have a:=cb n (by omega)
 have b:=cJ n (by omega)
 have c:=P3 a.1 a.2 b.1 b.2
 have e:B*(ε / B)=ε:=by grind
 rw[e]at c
 exact c
theorem ik.eq {f g:Nat→Rat} (hf:ik f) (h:∀n,g n=f n):ik g:=by
 have:g=f:=funext h
 rw[this];exact hf
theorem gQ.add {f g:Nat→Rat} (hf:gQ f) (bh:gQ g):gQ fun n=>f n+g n:=fun ε h=>by
 obtain⟨N,cb⟩:=hf (ε / 2) (by grind)
 obtain⟨M,cJ⟩:=bh (ε / 2) (by grind)
 refine⟨max N M,fun m n hm aQ=> ?_⟩
 have:=cb m n (by omega) (by omega)
 have:=cJ m n (by omega) (by omega)
 grind
theorem gQ.neg {f:Nat→Rat} (hf:gQ f):gQ fun n=> -f n:=fun ε h=>by
 obtain⟨N,cb⟩:=hf ε h
 refine⟨N,fun m n hm aQ=> ?_⟩
 have:=cb n m aQ hm
 grind
theorem gQ.mul {f g:Nat→Rat} (hf:gQ f) (bh:gQ g):gQ fun n=>f n*g n:=fun ε h=>by
 obtain⟨B,ad,N,cb⟩:=hf.bound
 obtain⟨C,g4,M,cJ⟩:=bh.bound
 obtain⟨arD,agB⟩:=hf (ε / 2 / C) (by rw[Rat.div_def];exact Rat.mul_pos (by grind) (Rat.inv_pos.2 g4))
 obtain⟨kZ,sX⟩:=bh (ε / 2 / B) (by rw[Rat.div_def];exact Rat.mul_pos (by grind) (Rat.inv_pos.2 ad))
 refine⟨max (max N M) (max arD kZ),fun m n hm aQ=> ?_⟩
 have a:=cb m (by omega)
 have b:=cJ n (by omega)
 have c:=agB m n (by omega) (by omega)
 have c':=agB n m (by omega) (by omega)
 have d:=sX m n (by omega) (by omega)
 have rY:=sX n m (by omega) (by omega)
 have p:=(P3 a.1 a.2 (x:=g m - g n) (e:=ε / 2 / B) (by grind) (by grind)).2
 have q:=(P3 b.1 b.2 (x:=f m - f n) (e:=ε / 2 / C) (by grind) (by grind)).2
 have a4:B*(ε / 2 / B)=ε / 2:=by grind
 have bc:C*(ε / 2 / C)=ε / 2:=by grind
 grind
theorem gQ.const (q:Rat):gQ fun _=>q:=fun ε h=>⟨0,fun _ _ _ _=>by grind⟩
structure JQ where
 f:Nat→Rat
 h:gQ f
instance:Setoid JQ where
 r a b:=ik fun n=>a.f n - b.f n
 iseqv:= {
  refl:=fun a ε h=>⟨0,fun n _=>by constructor<;>grind⟩
  symm:=fun h=>h.neg.eq fun n=>by grind
  trans:=fun h k=>(h.add k).eq fun n=>by grind }
def R:=Quotient (inferInstance:Setoid JQ)
def R.of (f:Nat→Rat) (h:gQ f):R:=Quotient.mk _ ⟨f,h⟩
theorem R.sound {f g:Nat→Rat} (hf:gQ f) (bh:gQ g) (h:ik fun n=>f n - g n):R.of f hf=R.of g bh:=Quotient.sound h
theorem R.exact {f g:Nat→Rat} {hf:gQ f} {bh:gQ g} (h:R.of f hf=R.of g bh):ik fun n=>f n - g n:=Quotient.exact h
theorem R.ex (x:R):∃f h,x=R.of f h:=by
 induction x using Quotient.ind with
 |_ a=>exact⟨a.f,a.h,rfl⟩
def R.add:R→R→R:=Quotient.lift₂ (fun a b=>R.of _ (a.h.add b.h)) fun a b c d h k=>R.sound _ _ ((ik.add h k).eq fun n=>by grind)
def R.mul:R→R→R:=Quotient.lift₂ (fun a b=>R.of _ (a.h.mul b.h)) fun a b c d h k=>R.sound _ _ (((ik.mul a.h k).add (ik.mul d.h h)).eq fun n=>by grind)
def R.neg:R→R:=Quotient.lift (fun a=>R.of _ a.h.neg) fun a b h=>R.sound _ _ ((ik.neg h).eq fun n=>by grind)
def R.rat (q:Rat):R:=R.of _ (gQ.const q)
instance:Add R:=⟨R.add⟩
instance:Mul R:=⟨R.mul⟩
instance:Neg R:=⟨R.neg⟩
instance:Sub R:=⟨fun a b=>a+ -b⟩
theorem R.ext {f g:Nat→Rat} (hf:gQ f) (bh:gQ g) (h:∀n,f n=g n):R.of f hf=R.of g bh:=by
 have:f=g:=funext h
 subst this;rfl
def R.npow (x:R):Nat→R
 |0=>R.rat 1
 |n+1=>R.npow x n*x
@[reducible] def amd {C:Type→Type} {α:Type} (_:C α) (β:Type):Type:=C β
@[reducible] def alF {S:Type→Type} {C:(α:Type)→S α→(l:LE α)→LT α→@Std.IsPreorder α l→Prop} {α:Type} {s:S α} {l:LE α} {k:LT α} {p:Std.IsPreorder α} (_:C α s l k p) (β:Type) (dM:S β) (xn:LE β) (eH:LT β) (dH:Std.IsPreorder β):Prop:=C β dM xn eH dH
instance:amd Dyadic.instCommRing R where
 natCast:=⟨fun n=>R.rat (n:Rat)⟩
 ofNat n:=⟨R.rat (n:Rat)⟩
 nsmul:=⟨fun n x=>R.rat (n:Rat)*x⟩
 npow:=⟨R.npow⟩
 intCast:=⟨fun n=>R.rat (n:Rat)⟩
 zsmul:=⟨fun n x=>R.rat (n:Rat)*x⟩
 add_zero x:=by obtain⟨f,hf,rfl⟩:=R.ex x;exact R.ext _ _ fun n=>by show f n+(0:Nat)=_;grind
 add_comm x y:=by obtain⟨f,hf,rfl⟩:=R.ex x;obtain⟨g,bh,rfl⟩:=R.ex y;exact R.ext _ _ fun n=>by grind
 add_assoc x y z:=by obtain⟨f,hf,rfl⟩:=R.ex x;obtain⟨g,bh,rfl⟩:=R.ex y;obtain⟨k,af,rfl⟩:=R.ex z;exact R.ext _ _ fun n=>by grind
 mul_assoc x y z:=by obtain⟨f,hf,rfl⟩:=R.ex x;obtain⟨g,bh,rfl⟩:=R.ex y;obtain⟨k,af,rfl⟩:=R.ex z;exact R.ext _ _ fun n=>by grind
 mul_comm x y:=by obtain⟨f,hf,rfl⟩:=R.ex x;obtain⟨g,bh,rfl⟩:=R.ex y;exact R.ext _ _ fun n=>by grind
 mul_one x:=by obtain⟨f,hf,rfl⟩:=R.ex x;exact R.ext _ _ fun n=>by show f n*(1:Nat)=_;grind
 one_mul x:=by obtain⟨f,hf,rfl⟩:=R.ex x;exact R.ext _ _ fun n=>by show (1:Nat)*f n=_;grind
 left_distrib x y z:=by obtain⟨f,hf,rfl⟩:=R.ex x;obtain⟨g,bh,rfl⟩:=R.ex y;obtain⟨k,af,rfl⟩:=R.ex z;exact R.ext _ _ fun n=>by grind
 right_distrib x y z:=by obtain⟨f,hf,rfl⟩:=R.ex x;obtain⟨g,bh,rfl⟩:=R.ex y;obtain⟨k,af,rfl⟩:=R.ex z;exact R.ext _ _ fun n=>by grind
 zero_mul x:=by obtain⟨f,hf,rfl⟩:=R.ex x;exact R.ext _ _ fun n=>by show (0:Nat)*f n=(0:Nat);grind
 mul_zero x:=by obtain⟨f,hf,rfl⟩:=R.ex x;exact R.ext _ _ fun n=>by show f n*(0:Nat)=(0:Nat);grind
 pow_zero x:=rfl
 pow_succ x n:=rfl
 ofNat_succ n:=R.ext _ _ fun _=>by show ((n+1:Nat):Rat)=(n:Rat)+((1:Nat):Rat);grind
 ofNat_eq_natCast n:=rfl
 nsmul_eq_natCast_mul n x:=rfl
 neg_add_cancel x:=by obtain⟨f,hf,rfl⟩:=R.ex x;exact R.ext _ _ fun n=>by show -f n+f n=(0:Nat);grind
 sub_eq_add_neg x y:=rfl
 neg_zsmul n x:=by obtain⟨f,hf,rfl⟩:=R.ex x;exact R.ext _ _ fun k=>by show ((-n:Int):Rat)*f k= -((n:Rat)*f k);grind
 zsmul_natCast_eq_nsmul n x:=by obtain⟨f,hf,rfl⟩:=R.ex x;exact R.ext _ _ fun k=>by show (((n:Nat):Int):Rat)*f k=(n:Rat)*f k;rw[Rat.intCast_natCast]
 intCast_ofNat n:=R.ext _ _ fun _=>Rat.intCast_natCast n
 intCast_neg n:=R.ext _ _ fun _=>by show ((-n:Int):Rat)= -(n:Rat);grind
def R.pos:R→Prop:=Quotient.lift (fun a=>∃ε:Rat,0<ε∧∃N,∀n,N≤n→ε<a.f n) fun a b h=>by
 have key:∀{a b:JQ},ik (fun n=>a.f n - b.f n)→(∃ε:Rat,0<ε∧∃N,∀n,N≤n→ε<a.f n)→∃ε:Rat,0<ε∧∃N,∀n,N≤n→ε<b.f n:=by
  rintro a b h ⟨ε,he,N,cb⟩
  obtain⟨M,cJ⟩:=h (ε / 2) (by grind)
  refine⟨ε / 2,by grind,max N M,fun n aQ=> ?_⟩
  have:=cb n (by omega)
  have:=cJ n (by omega)
  grind
 exact propext ⟨key h,key ((ik.neg h).eq fun n=>by grind)⟩
theorem ak1 {x y:R} (aj:x.pos) (hy:y.pos):(x+y).pos:=by
 obtain⟨f,hf,rfl⟩:=R.ex x
 obtain⟨g,bh,rfl⟩:=R.ex y
 obtain⟨a,a9,N,cb⟩:=aj
 obtain⟨b,aw,M,cJ⟩:=hy
 refine⟨a+b,by grind,max N M,fun n aQ=> ?_⟩
 have:a<f n:=cb n (by omega)
 have:b<g n:=cJ n (by omega)
 show a+b<f n+g n
 grind
theorem G5 {x y:R} (aj:x.pos) (hy:y.pos):(x*y).pos:=by
 obtain⟨f,hf,rfl⟩:=R.ex x
 obtain⟨g,bh,rfl⟩:=R.ex y
 obtain⟨a,a9,N,cb⟩:=aj
 obtain⟨b,aw,M,cJ⟩:=hy
 refine⟨a*b,Rat.mul_pos a9 aw,max N M,fun n aQ=> ?_⟩
 have h1:a<f n:=cb n (by omega)
 have h2:b<g n:=cJ n (by omega)
 show a*b<f n*g n
 have p:=Rat.mul_pos (show 0<f n - a by grind) (show 0<g n by grind)
 have q:=Rat.mul_pos a9 (show 0<g n - b by grind)
 grind
theorem Ld {x:R} (aj:x.pos) (hy:(-x).pos):False:=by
 obtain⟨f,hf,rfl⟩:=R.ex x
 obtain⟨a,a9,N,cb⟩:=aj
 obtain⟨b,aw,M,cJ⟩:=hy
 have h1:a<f (max N M):=cb _ (by omega)
 have h2:b< -f (max N M):=cJ _ (by omega)
 grind
theorem aaW (x:R):x=0∨x.pos∨(-x).pos:=by
 obtain⟨f,hf,rfl⟩:=R.ex x
 by_cases h:ik f
 ·left
  exact R.sound hf (gQ.const ((0:Nat):Rat)) (h.eq fun n=>by show f n - (0:Nat)=f n;grind)
 ·right
  unfold ik at h
  obtain⟨ε,h⟩:=Classical.not_forall.1 h
  obtain⟨he,h⟩:=Classical.not_imp.1 h
  obtain⟨N,cb⟩:=hf (ε / 2) (by grind)
  have h:=Classical.not_forall.1 (fun k=>h ⟨N,k⟩)
  obtain⟨m,h⟩:=h
  obtain⟨hm,h⟩:=Classical.not_imp.1 h
  by_cases c:f m<ε
  ·right
   refine⟨ε / 2,by grind,N,fun n aQ=> ?_⟩
   have:=cb n m aQ hm
   show ε / 2< -f n
   have:¬-ε<f m:=fun k=>h ⟨k,c⟩
   grind
  ·left
   refine⟨ε / 2,by grind,N,fun n aQ=> ?_⟩
   have:=cb m n hm aQ
   grind
instance:LT R:=⟨fun a b=>(b - a).pos⟩
instance:LE R:=⟨fun a b=>¬(a - b).pos⟩
theorem lt_def {a b:R} :a<b↔(b - a).pos:=Iff.rfl
theorem le_def {a b:R} :a≤b↔¬(a - b).pos:=Iff.rfl
theorem ah5:¬(0:R).pos:=fun h=>Ld h ((show (-0:R)=0 by grind).symm▸h)
theorem aaX:(1:R).pos:=⟨1 / 2,by grind,0,fun _ _=>by show (1 / 2:Rat)<((1:Nat):Rat);grind⟩
theorem wz {a b:R} (h:a≤b):a=b∨a<b:=by
 rcases aaW (a - b)with k|k|k
 ·left;grind
 ·exact absurd k h
 ·right;rw[lt_def];have e:b - a= -(a - b):=by grind
  rw[e];exact k
instance:Std.IsLinearOrder R where
 le_refl a:=by rw[le_def];have e:a - a=0:=by grind
               rw[e];exact ah5
 le_trans a b c h k:=by
  rw[le_def];intro p
  rcases wz h with rfl|eU
  ·exact k p
  ·rcases wz k with rfl|eH
   ·exact h p
   ·refine Ld (ak1 eU eH) ?_
    have e: -(b - a+(c - b))=a - c:=by grind
    rw[e];exact p
 le_antisymm a b h k:=by
  rcases wz h with rfl|eU
  ·rfl
  ·exact absurd eU k
 le_total a b:=by
  by_cases h:(a - b).pos
  ·right;intro k;refine Ld h ?_
   have e: -(a - b)=b - a:=by grind
   rw[e];exact k
  ·left;exact h
instance:Std.LawfulOrderLT R where
 lt_iff a b:=by
  constructor
  ·intro h
   refine⟨fun k=>Ld h (by have e: -(b - a)=a - b:=by grind
                          rw[e];exact k),fun k=>k h⟩
  ·rintro⟨h,k⟩
   exact Classical.not_not.1 k
instance:alF Dyadic.instOrderedRing R (by infer_instance) (by infer_instance) (by infer_instance) (by infer_instance)where
 add_le_left_iff {a b} c:=by
  rw[le_def,le_def,show a+c - (b+c)=a - b by grind]
 zero_lt_one:=by rw[lt_def,show (1:R) - 0=1 by grind];exact aaX
 mul_lt_mul_of_pos_left {a b c} h k:=by
  rw[lt_def]at*
  rw[show c*b - c*a=c*(b - a)by grind]
  exact G5 (by rw[show c - 0=c by grind]at k;exact k) h
 mul_lt_mul_of_pos_right {a b c} h k:=by
  rw[lt_def]at*
  rw[show b*c - a*c=c*(b - a)by grind]
  exact G5 (by rw[show c - 0=c by grind]at k;exact k) h
theorem ajL {q δ:Rat} (a7:0≤q) (FP:0<δ):∃y,0≤y∧y*y≤q∧q<(y+δ)*(y+δ):=by
 have aL:0<δ*δ:=Rat.mul_pos FP FP
 obtain⟨z,br⟩:∃z,z=q / (δ*δ):=⟨_,rfl⟩
 have BT:0≤z:=by rw[br,Rat.div_def];exact Rat.mul_nonneg a7 (Rat.le_of_lt (Rat.inv_pos.2 aL))
 have asG:z*(δ*δ)=q:=by grind
 have f0:0≤z.floor:=Rat.le_floor_iff.2 (by exact_mod_cast BT)
 obtain⟨a,a9⟩:∃a:Nat,z.floor=a:=⟨z.floor.toNat,by omega⟩
 have f1:=Rat.floor_le z
 have f2:=Rat.lt_floor_add_one z
 rw[a9]at f1 f2
 have s:=RV.pf a
 obtain⟨r,ar⟩:∃r,r=RV.a5 a:=⟨_,rfl⟩
 rw[←ar]at s
 have s1:(r:Rat)*r≤(a:Rat):=by exact_mod_cast s.1
 have s2:(a:Rat)+1≤((r:Rat)+1)*(r+1):=by exact_mod_cast s.2
 have f1:(a:Rat)≤z:=by exact_mod_cast f1
 have f2:z<(a:Rat)+1:=by exact_mod_cast f2
 have hI:(0:Rat)≤r:=by exact_mod_cast Nat.zero_le r
 refine⟨r*δ,Rat.mul_nonneg hI (Rat.le_of_lt FP),?_,?_⟩
 ·have:=Rat.mul_nonneg (show 0≤z - r*r by grind) (Rat.le_of_lt aL)
  grind
 ·have:=Rat.mul_pos (show 0<((r:Rat)+1)*(r+1) - z by grind) aL
  grind
def dl (n:Nat):Rat:=1 / (n+1)
theorem Qu (n:Nat):0<dl n:=by
 have:(0:Rat)≤n:=by exact_mod_cast Nat.zero_le n
 unfold dl
 rw[Rat.div_def]
 exact Rat.mul_pos (by grind) (Rat.inv_pos.2 (by grind))
theorem ZU {ε:Rat} (h:0<ε):∃N,∀n,N≤n→dl n<ε:=by
 refine⟨(1 / ε).floor.toNat+1,fun n aQ=> ?_⟩
 have f2:=Rat.lt_floor_add_one (1 / ε)
 have zN:(1 / ε).floor+1≤(n:Int):=by omega
 have h1:1 / ε<(n:Rat):=by
  refine Std.lt_of_lt_of_le f2 ?_
  have:(((1 / ε).floor+1:Int):Rat)≤((n:Int):Rat):=by exact_mod_cast zN
  rwa [Rat.intCast_natCast]at this
 have dS:(0:Rat)≤n:=by exact_mod_cast Nat.zero_le n
 have p:=Qu n
 have e:dl n*(n+1)=1:=by unfold dl;grind
 have bc:1 / ε*ε=1:=by grind
 have q:=Rat.mul_pos (show 0<(n:Rat)+1 - 1 / ε by grind) (Rat.mul_pos h p)
 have c8:((n:Rat)+1 - 1 / ε)*(ε*dl n)=ε - dl n:=by grind
 rw[c8]at q
 grind
noncomputable def rt (q δ:Rat):Rat:=Classical.epsilon fun y=>0≤y∧(0<δ→y*y≤(if 0≤q then q else 0)∧(if 0≤q then q else 0)<(y+δ)*(y+δ))
theorem ak2 (q δ:Rat) (FP:0<δ):0≤rt q δ∧rt q δ*rt q δ≤(if 0≤q then q else 0)∧(if 0≤q then q else 0)<(rt q δ+δ)*(rt q δ+δ):=by
 have:∃y,0≤y∧(0<δ→y*y≤(if 0≤q then q else 0)∧(if 0≤q then q else 0)<(y+δ)*(y+δ)):=by
  obtain⟨y,h1,h2⟩:=ajL (q:=if 0≤q then q else 0) (by split<;>grind) FP
  exact⟨y,h1,fun _=>h2⟩
 have:=Classical.epsilon_spec this
 exact⟨this.1,this.2 FP⟩
theorem alG {y:Nat→Rat} (h0:∀n,0≤y n) (h:gQ fun n=>y n*y n):gQ y:=fun ε he=>by
 obtain⟨N,cb⟩:=h (ε*ε) (Rat.mul_pos he he)
 refine⟨N,fun m n hm aQ=> ?_⟩
 have a:=cb m n hm aQ
 have b:=h0 m
 have c:=h0 n
 refine Rat.not_le.1 fun k=> ?_
 have p:=Rat.mul_nonneg (show 0≤y m - y n - ε by grind) (show 0≤y m - y n+ε by grind)
 have q:=Rat.mul_nonneg (show 0≤y m - y n by grind) c
 grind
theorem ame {f:Nat→Rat} {hf:gQ f} (h:0≤R.of f hf) {ε:Rat} (he:0<ε):∃N,∀n,N≤n→-ε<f n:=by
 rcases wz h with k|k
 ·have:=R.exact (hf:=gQ.const ((0:Nat):Rat)) k
  obtain⟨N,cb⟩:=this ε he
  refine⟨N,fun n aQ=> ?_⟩
  have:=(cb n aQ).2
  have e:((0:Nat):Rat)=0:=rfl
  grind
 ·rw[lt_def,show R.of f hf - 0=R.of f hf by grind]at k
  obtain⟨a,a9,N,cb⟩:=k
  refine⟨N,fun n aQ=> ?_⟩
  have:a<f n:=cb n aQ
  grind
theorem ak3 {B ε WN δ q y:Rat} (s1:0≤y) (s2:y*y≤if 0≤q then q else 0) (qF:(if 0≤q then q else 0)<(y+δ)*(y+δ)) (a: -B<q∧q<B) (b: -ε<q) (ad:0<B) (c:δ<WN) (d:δ<1) (p:0<δ) (he:0<ε)
 (ahA:WN*(2*(B+2))=ε): -ε<y*y - q∧y*y - q<ε:=by
 by_cases h:0≤q
 ·rw[if_pos h]at s2 qF
  have atb:y≤B+1:=by
   refine Rat.not_lt.1 fun k=> ?_
   have:=Rat.mul_pos (show 0<y - (B+1)by grind) (show 0<y+(B+1)by grind)
   have:=Rat.mul_pos ad ad
   grind
  have hh:=Rat.mul_nonneg (show 0≤B+1 - y by grind) (Rat.le_of_lt p)
  have iX:=Rat.mul_pos (show 0<1 - δ by grind) p
  have we:=Rat.mul_pos (show 0<WN - δ by grind) (show 0<2*(B+2)by grind)
  constructor<;>grind
 ·rw[if_neg h]at s2 qF
  have:=Ku y
  constructor<;>grind
theorem ak4 (x:R) (aj:0≤x):∃y:R,0≤y∧y*y=x:=by
 obtain⟨f,hf,rfl⟩:=R.ex x
 have sp:=fun n=>ak2 (f n) (dl n) (Qu n)
 have key:ik fun n=>rt (f n) (dl n)*rt (f n) (dl n) - f n:=fun ε he=>by
  obtain⟨B,ad,N,cb⟩:=hf.bound
  obtain⟨M,cJ⟩:=ame aj he
  have au:0<ε / (2*(B+2)):=by rw[Rat.div_def];exact Rat.mul_pos he (Rat.inv_pos.2 (by grind))
  obtain⟨K,cj⟩:=ZU au
  obtain⟨fa,ap4⟩:=ZU (show (0:Rat)<1 by grind)
  refine⟨max (max N M) (max K fa),fun n aQ=> ?_⟩
  obtain⟨s1,s2,qF⟩:=sp n
  have a:=cb n (by omega)
  have b:=cJ n (by omega)
  have c:=cj n (by omega)
  have d:=ap4 n (by omega)
  have p:=Qu n
  exact ak3 s1 s2 qF a b ad c d p he (by grind)
 have au:gQ fun n=>rt (f n) (dl n)*rt (f n) (dl n):=by
  have e:(fun n=>rt (f n) (dl n)*rt (f n) (dl n))=fun n=>f n+(rt (f n) (dl n)*rt (f n) (dl n) - f n):=funext fun n=>by grind
  rw[e]
  refine hf.add fun ε he=> ?_
  obtain⟨N,cb⟩:=key (ε / 2) (by grind)
  refine⟨N,fun m n hm aQ=> ?_⟩
  have:=cb m hm
  have:=cb n aQ
  grind
 have hy:=alG (fun n=>(sp n).1) au
 refine⟨R.of _ hy,?_,R.sound _ hf key⟩
 rw[le_def]
 rintro⟨a,a9,N,cb⟩
 have h1:a<((0:Nat):Rat)+ -rt (f N) (dl N):=cb N (Nat.le_refl _)
 have h2:=(sp N).1
 have e:((0:Nat):Rat)=0:=rfl
 grind
end RR
namespace RR
instance:Inhabited R:=⟨0⟩
noncomputable def jN (x:R):R:=Classical.epsilon fun y=>0≤y∧y*y=x
theorem qN {x:R} (h:0≤x):0≤jN x∧jN x*jN x=x:=Classical.epsilon_spec (ak4 x h)
theorem OZ (x:R):0≤x*x:=by
 rcases aaW x with h|h|h
 ·rw[h];grind
 ·have:=G5 h h
  have:(0:R)<x*x:=by rw[lt_def,show x*x - 0=x*x by grind];exact this
  grind
 ·have:=G5 h h
  have:(0:R)<x*x:=by rw[lt_def,show x*x - 0= -x* -x by grind];exact this
  grind
theorem wA {x y:R} (aj:0<x) (hy:0<y):0<x*y:=by
 rw[lt_def,show x*y - 0=(x - 0)*(y - 0)by grind]
 exact G5 aj hy
theorem cl {x y:R} (aj:0≤x) (hy:0≤y):0≤x*y:=by
 rcases wz aj with h|h
 ·rw[←h];grind
 ·rcases wz hy with k|k
  ·rw[←k];grind
  ·have:=wA h k
   grind
theorem acq {a b:R} (a9:0≤a) (aw:0≤b) (h:a*a=b*b):a=b:=by
 rcases Std.le_total (a:=a) (b:=b)with k|k
 ·rcases wz k with e|e
  ·exact e
  ·have:=wA (show 0<b - a by grind) (show 0<b+a by grind)
   grind
 ·rcases wz k with e|e
  ·exact e.symm
  ·have:=wA (show 0<a - b by grind) (show 0<b+a by grind)
   grind
theorem gX {a b:R} (aw:0≤b) (h:a*a≤b*b):a≤b:=by
 rcases Std.le_total (a:=a) (b:=b)with k|k
 ·exact k
 ·rcases wz k with e|e
  ·rw[e];grind
  ·have:=wA (show 0<a - b by grind) (show 0<a+b by grind)
   grind
def hf:R:=R.rat (1 / 2)
theorem qz:hf+hf=1:=R.ext _ _ fun _=>by show (1 / 2:Rat)+1 / 2=((1:Nat):Rat);grind
theorem s6:0<hf:=by
 have:=qz
 have:(0:R)<1:=aaX|>fun h=>by rw[lt_def,show (1:R) - 0=1 by grind];exact h
 grind
noncomputable def au:Nat→R
 |0=>jN hf
 |k+1=>jN (hf*(1+au k))
noncomputable def aG:Nat→R
 |0=>jN hf
 |k+1=>jN (hf*(1 - au k))
theorem LH:∀k,0≤au k∧au k≤1∧0≤aG k∧au k*au k+aG k*aG k=1:=by
 have one:∀{c s:R},0≤c→c*c+s*s=1→c≤1:=fun {c s} h0 h=>by
  refine gX (by have:=s6;have:=qz;grind) ?_
  have:=OZ s
  grind
 intro k
 induction k with
 |zero=>
  have r:=qN (x:=hf) (by have:=s6;grind)
  have e:au 0*au 0+aG 0*aG 0=1:=by unfold au aG;rw[r.2];exact qz
  exact⟨r.1,one r.1 e,r.1,e⟩
 |succ k cM=>
  obtain⟨h1,h2,aq,aE⟩:=cM
  have z:=s6
  have r:=qN (x:=hf*(1+au k)) (cl (by grind) (by have:=qz;grind))
  have t:=qN (x:=hf*(1 - au k)) (cl (by grind) (by grind))
  have e:au (k+1)*au (k+1)+aG (k+1)*aG (k+1)=1:=by
   unfold au aG
   rw[r.2,t.2]
   have:=qz
   grind
  exact⟨r.1,one r.1 e,t.1,e⟩
theorem adf (k:Nat):au k=au (k+1)*au (k+1) - aG (k+1)*aG (k+1)∧aG k=au (k+1)*aG (k+1)+aG (k+1)*au (k+1):=by
 obtain⟨h1,h2,aq,aE⟩:=LH k
 have z:=s6
 have dP:=qz
 have r:=qN (x:=hf*(1+au k)) (cl (by grind) (by grind))
 have t:=qN (x:=hf*(1 - au k)) (cl (by grind) (by grind))
 have Ar:au (k+1)*au (k+1)=hf*(1+au k):=r.2
 have N2:aG (k+1)*aG (k+1)=hf*(1 - au k):=t.2
 have xB:0≤au (k+1):=r.1
 have pt:0≤aG (k+1):=t.1
 constructor
 ·rw[Ar,N2];grind
 ·have q:=cl xB pt
  refine acq aq (by grind) ?_
  have e:(au (k+1)*aG (k+1)+aG (k+1)*au (k+1))*(au (k+1)*aG (k+1)+aG (k+1)*au (k+1))=4*((au (k+1)*au (k+1))*(aG (k+1)*aG (k+1))):=by grind
  rw[e,Ar,N2]
  have bc:(hf+hf)*(hf+hf)=1:=by rw[qz];grind
  have c8:4*(hf*(1+au k)*(hf*(1 - au k)))=((hf+hf)*(hf+hf))*(1 - au k*au k):=by grind
  rw[c8,bc]
  grind
structure bF where
 c1:R
 dA:R
theorem bF.ext' {a b:bF} (h:a.c1=b.c1) (k:a.dA=b.dA):a=b:=by cases a;cases b;simp only at h k;subst h k;rfl
def bF.mul (a b:bF):bF:=⟨a.c1*b.c1 - a.dA*b.dA,a.c1*b.dA+a.dA*b.c1⟩
def bF.EB (a:bF):bF:=⟨a.c1,-a.dA⟩
def bF.one:bF:=⟨1,0⟩
def bF.I:bF:=⟨0,1⟩
theorem bF.assoc (a b c:bF):(a.mul b).mul c=a.mul (b.mul c):=ext' (by simp only[mul];grind) (by simp only[mul];grind)
theorem bF.comm (a b:bF):a.mul b=b.mul a:=ext' (by simp only[mul];grind) (by simp only[mul];grind)
theorem bF.mul_one (a:bF):a.mul one=a:=ext' (by simp only[mul,one];grind) (by simp only[mul,one];grind)
theorem bF.one_mul (a:bF):one.mul a=a:=by rw[comm,mul_one]
def bF.ju (a:bF):R:=a.c1*a.c1+a.dA*a.dA
theorem bF.P4 (a b:bF):(a.mul b).ju=a.ju*b.ju:=by simp only[ju,mul];grind
theorem bF.ZV {a:bF} (h:a.ju=1):a.mul a.EB=one:=ext' (by simp only[mul,EB,one];unfold ju at h;grind) (by simp only[mul,EB,one];grind)
def bF.pow (a:bF):Nat→bF
 |0=>one
 |n+1=>(a.pow n).mul a
theorem bF.pow_add (a:bF) (m:Nat):∀n,a.pow (m+n)=(a.pow m).mul (a.pow n)
 |0=>(mul_one _).symm
 |n+1=>by show (a.pow (m+n)).mul a=_;rw[pow_add a m n,assoc];rfl
theorem bF.pow_mul (a:bF) (m:Nat):∀n,a.pow (m*n)=(a.pow m).pow n
 |0=>rfl
 |n+1=>by rw[Nat.mul_succ,pow_add,pow_mul a m n];rfl
theorem bF.one_pow:∀n,one.pow n=one
 |0=>rfl
 |n+1=>by show (one.pow n).mul one=_;rw[mul_one,one_pow n]
theorem bF.Le:one.ju=1:=by simp only[ju,one];grind
theorem bF.aaY {a:bF} (h:a.ju=1):∀n,(a.pow n).ju=1
 |0=>Le
 |n+1=>by show ((a.pow n).mul a).ju=1;rw[P4,aaY h n,h];grind
noncomputable def un:Nat→bF
 |0=>bF.one
 |1=>⟨-1,0⟩
 |2=>bF.I
 |q+3=>⟨au q,aG q⟩
theorem amf:∀q,(un (q+1)).mul (un (q+1))=un q
 |0=>bF.ext' (by simp only[un,bF.mul,bF.one];grind) (by simp only[un,bF.mul,bF.one];grind)
 |1=>bF.ext' (by simp only[un,bF.mul,bF.I];grind) (by simp only[un,bF.mul,bF.I];grind)
 |2=>by
  have r:=qN (x:=hf) (by have:=s6;grind)
  have e:=r.2
  have:=qz
  exact bF.ext' (by simp only[un,bF.mul,bF.I,au,aG];grind) (by simp only[un,bF.mul,bF.I,au,aG];grind)
 |q+3=>bF.ext' (adf q).1.symm (adf q).2.symm
theorem Hk:∀q,(un q).ju=1
 |0=>bF.Le
 |1=>by simp only[un,bF.ju];grind
 |2=>by simp only[un,bF.ju,bF.I];grind
 |q+3=>(LH q).2.2.2
theorem Qv (q:Nat):∀j,(un (q+j)).pow (2^j)=un q
 |0=>bF.one_mul _
 |j+1=>by
  have e:2^(j+1)=2*2^j:=by rw[Nat.pow_succ];omega
  rw[e,bF.pow_mul]
  have:(un (q+(j+1))).pow 2=un (q+j):=by
   show ((bF.one.mul _).mul _)=_
   rw[bF.one_mul];exact amf (q+j)
  rw[this,Qv q j]
noncomputable def pt (a:Nat):bF:=(un 60).pow a
theorem y6 (a b:Nat):pt (a+b)=(pt a).mul (pt b):=bF.pow_add ..
theorem Hl (a:Nat):(pt a).ju=1:=bF.aaY (Hk 60) a
theorem wN {q:Nat} (h:q≤60) (k:Nat):pt (k*2^(60 - q))=(un q).pow k:=by
 unfold pt
 have e:60=q+(60 - q):=by omega
 rw[Nat.mul_comm,bF.pow_mul]
 have:=Qv q (60 - q)
 rw[←e]at this
 rw[this]
theorem aaZ:pt 0=bF.one:=rfl
theorem ZW (k:Nat):pt (k*1152921504606846976)=bF.one:=by
 have:=wN (q:=0) (by omega) k
 rw[show 2^(60 - 0)=1152921504606846976 by decide]at this
 rw[this];exact bF.one_pow k
theorem Hm (a:Nat):pt (a % 1152921504606846976)=pt a:=by
 have e:=Nat.div_add_mod a 1152921504606846976
 have:pt a=pt (1152921504606846976*(a / 1152921504606846976)+a % 1152921504606846976):=by rw[e]
 rw[this,y6,Nat.mul_comm,ZW,bF.one_mul]
theorem alH {a b:Nat} {k:Nat} (h:a+b=k*1152921504606846976):pt b=(pt a).EB:=by
 have e:(pt a).mul (pt b)=bF.one:=by rw[←y6,h,ZW]
 have c:=bF.ZV (Hl a)
 rw[←bF.mul_one (pt b),←c,←bF.assoc,bF.comm (pt b),e,bF.one_mul]
theorem ai9:pt 288230376151711744=bF.I:=by
 have:=wN (q:=2) (by omega) 1
 rw[show 1*2^(60 - 2)=288230376151711744 by decide]at this
 rw[this];exact bF.one_mul _
theorem aa0 (k r:Nat):pt (k*288230376151711744+r)=(bF.I.pow k).mul (pt r):=by
 rw[y6]
 congr 1
 have:=wN (q:=2) (by omega) k
 rw[show 2^(60 - 2)=288230376151711744 by decide]at this
 exact this
theorem alI {k r a:Nat} (h:a+r=k*288230376151711744):pt a=(bF.I.pow k).mul (pt r).EB:=by
 have e:(pt a).mul (pt r)=bF.I.pow k:=by
  rw[←y6,h,←Nat.add_zero (k*288230376151711744),aa0,aaZ,bF.mul_one]
 rw[←e,bF.assoc,bF.ZV (Hl r),bF.mul_one]
end RR
namespace RV
open RR
def jx (d:a6):Rat:=(dU d.neg d.m:Int)*(2:Rat)^d.e
theorem G6 (a b:Int):(2:Rat)^(a+b)=2^a*2^b:=Rat.zpow_add (by decide) a b
theorem two_pos (a:Int):(0:Rat)<2^a:=Rat.zpow_pos (by decide)
theorem P5 (n:Nat):(2:Rat)^(n:Int)=((2^n:Int):Rat):=by
 rw[Rat.zpow_natCast,Rat.intCast_pow];rfl
theorem kh {E:Int} {d:a6} (l:d.m≠0→E≤d.e):jx d=(d.V E:Rat)*2^E:=by
 unfold jx
 by_cases h0:d.m=0
 ·rw[k6 h0,h0]
  have:dU d.neg 0=0:=by cases d.neg<;>rfl
  rw[this]
  show (0:Rat)*_=(0:Rat)*_
  grind
 ·have h:=l h0
  unfold a6.V
  rw[Rat.intCast_mul,←P5,Rat.mul_assoc,←G6]
  congr 2
  omega
theorem ak5 {d:a6} (h:d.m=0):jx d=0:=by
 rw[kh (E:=0) (fun k=>absurd h k),k6 h]
 show (0:Rat)*_=_
 grind
theorem alJ (a b:a6):jx (dZ a b)=jx a+jx b:=by
 have cI:a.m≠0→min a.e b.e≤a.e:=fun _=>by omega
 have dC:b.m≠0→min a.e b.e≤b.e:=fun _=>by omega
 rw[kh cI,kh dC,kh (PU cI dC),QJ cI dC,Rat.intCast_add]
 grind
theorem ak6 (a:a6):jx (dx a)= -jx a:=by
 have cI:a.m≠0→a.e≤a.e:=fun _=>by omega
 rw[kh cI,kh (d:=dx a) (E:=a.e) cI,aca,Rat.intCast_neg]
 grind
theorem alK (a b:a6):(cD a b).m≠0→a.e+b.e≤(cD a b).e:=p8 (Int.le_refl _)
theorem alL (a b:a6):jx (cD a b)=jx a*jx b:=by
 rw[kh (alK a b),ama (fun _=>Int.le_refl _) (fun _=>Int.le_refl _),kh (E:=a.e) (fun _=>Int.le_refl _),kh (E:=b.e) (fun _=>Int.le_refl _),Rat.intCast_mul,G6]
 grind
theorem aks (a:a6) (k:Int):jx (gU a k)=jx a*2^k:=by
 have l:(gU a k).m≠0→a.e+k≤(gU a k).e:=p8 (Int.le_refl _)
 rw[kh l,akT k (fun _=>Int.le_refl _),kh (E:=a.e) (fun _=>Int.le_refl _),G6]
 grind
theorem amg {a b:a6} :ej a b≤0↔jx a≤jx b:=by
 have cI:a.m≠0→min a.e b.e≤a.e:=fun _=>by omega
 have dC:b.m≠0→min a.e b.e≤b.e:=fun _=>by omega
 rw[alz cI dC,kh cI,kh dC]
 have p:=two_pos (min a.e b.e)
 generalize (2:Rat)^min a.e b.e=t at p
 constructor
 ·intro h
  exact Rat.mul_le_mul_of_nonneg_right (Rat.intCast_le_intCast.2 h) (Rat.le_of_lt p)
 ·intro h
  exact Rat.intCast_le_intCast.1 (Rat.le_of_mul_le_mul_right h p)
theorem amh {a b:a6} :ej a b<0↔jx a<jx b:=by
 have cI:a.m≠0→min a.e b.e≤a.e:=fun _=>by omega
 have dC:b.m≠0→min a.e b.e≤b.e:=fun _=>by omega
 rw[alA cI dC,kh cI,kh dC]
 have p:=two_pos (min a.e b.e)
 generalize (2:Rat)^min a.e b.e=t at p
 constructor
 ·intro h
  exact Rat.mul_lt_mul_of_pos_right (Rat.intCast_lt_intCast.2 h) p
 ·intro h
  exact Rat.intCast_lt_intCast.1 (Rat.lt_of_mul_lt_mul_right h (Rat.le_of_lt p))
theorem alM {a b:a6} (a9:a.ok) (aw:b.ok) (h:jx a=jx b):a=b:=by
 have cI:a.m≠0→min a.e b.e≤a.e:=fun _=>by omega
 have dC:b.m≠0→min a.e b.e≤b.e:=fun _=>by omega
 refine al9 a9 aw cI dC ?_
 rw[kh cI,kh dC]at h
 have p:=two_pos (min a.e b.e)
 generalize (2:Rat)^min a.e b.e=t at p h
 exact Int.le_antisymm (Rat.intCast_le_intCast.1 (Rat.le_of_mul_le_mul_right (by rw[h];exact Rat.le_refl) p)) (Rat.intCast_le_intCast.1 (Rat.le_of_mul_le_mul_right (by rw[h];exact Rat.le_refl) p))
theorem XE {a:a6} :ia a<0↔jx a<0:=by
 rw[kh (E:=a.e) (fun _=>Int.le_refl _),ab9 (E:=a.e),Int.sign_neg_iff]
 have p:=two_pos a.e
 generalize (2:Rat)^a.e=t at p
 constructor
 ·intro h
  have:=Rat.mul_lt_mul_of_pos_right (Rat.intCast_lt_intCast.2 h) p
  simpa using this
 ·intro h
  refine Rat.intCast_lt_intCast.1 (Rat.lt_of_mul_lt_mul_right (c:=t) ?_ (Rat.le_of_lt p))
  show _<(0:Rat)*t
  grind
end RV
namespace RR
theorem P6 (p q:Rat):R.rat (p+q)=R.rat p+R.rat q:=R.ext _ _ fun _=>rfl
theorem G7 (p q:Rat):R.rat (p*q)=R.rat p*R.rat q:=R.ext _ _ fun _=>rfl
theorem aa1 (p:Rat):R.rat (-p)= -R.rat p:=R.ext _ _ fun _=>rfl
theorem akt:R.rat 0=0:=rfl
theorem ak7:R.rat 1=1:=rfl
theorem Da {p q:Rat} :R.rat p<R.rat q↔p<q:=by
 rw[lt_def]
 constructor
 ·rintro⟨a,a9,N,cb⟩
  have:a<q+ -p:=cb N (Nat.le_refl _)
  grind
 ·intro h
  exact⟨(q - p) / 2,by grind,0,fun n _=>by show (q - p) / 2<q+ -p;grind⟩
theorem Hn {p q:Rat} :R.rat p≤R.rat q↔p≤q:=by
 constructor
 ·intro h
  refine Rat.not_lt.1 fun k=> ?_
  have:=Da.2 k
  grind
 ·intro h
  refine Classical.not_not.1 fun k=> ?_
  have:R.rat q<R.rat p:=by
   rcases Std.le_total (a:=R.rat p) (b:=R.rat q)with e|e
   ·exact absurd e k
   ·rcases wz e with e|e
    ·rw[e]at k;exact absurd (by grind) k
    ·exact e
  have:=Da.1 this
  grind
def aK (e:Int):R:=R.rat ((2:Rat)^e)
theorem k7 (a b:Int):aK (a+b)=aK a*aK b:=by unfold aK;rw[RV.G6,G7]
theorem eV (a:Int):0<aK a:=by unfold aK;rw[←akt,Da];exact RV.two_pos a
theorem P7:aK 0=1:=rfl
theorem ve {a b:Int} (h:a≤b):aK a≤aK b:=by
 unfold aK
 rw[Hn]
 have e:b=a+((b - a).toNat:Nat):=by omega
 rw[e,RV.G6,RV.P5]
 have p:=RV.two_pos a
 have q:(1:Rat)≤((2^(b - a).toNat:Int):Rat):=by
  have:(1:Int)≤2^(b - a).toNat:=by
   have:=Nat.one_le_two_pow (n:=(b - a).toNat)
   exact_mod_cast this
  exact_mod_cast this
 have:=Rat.mul_nonneg (Rat.le_of_lt p) (show 0≤((2^(b - a).toNat:Int):Rat) - 1 by grind)
 grind
theorem ph (a:Int):aK (a+1)=aK a+aK a:=by
 rw[k7]
 have:aK 1=1+1:=by unfold aK;rw[←ak7,←P6];congr 1;decide+kernel
 rw[this];grind
end RR
namespace RV.Dr
open RV RR
set_option linter.unusedSimpArgs false
set_option linter.unusedVariables false
def bo (d:a6):R:=R.rat (jx d)
theorem y7 (a b:a6):bo (dZ a b)=bo a+bo b:=by unfold bo;rw[alJ,P6]
theorem Ho (a b:a6):bo (cD a b)=bo a*bo b:=by unfold bo;rw[alL,G7]
theorem uR (a:a6):bo (dx a)= -bo a:=by unfold bo;rw[ak6,aa1]
theorem GS (a:a6) (k:Int):bo (gU a k)=bo a*aK k:=by unfold bo aK;rw[aks,G7]
theorem qc {a b:a6} :ej a b≤0↔bo a≤bo b:=by unfold bo;rw[Hn];exact amg
theorem Hx {a b:a6} :ej a b<0↔bo a<bo b:=by unfold bo;rw[Da];exact amh
theorem Hp {a b:a6} (a9:a.ok) (aw:b.ok) (h:bo a=bo b):a=b:=by
 refine alM a9 aw ?_
 have h1:bo a≤bo b:=by rw[h];grind
 have h2:bo b≤bo a:=by rw[h];grind
 unfold bo at h1 h2
 rw[Hn]at h1 h2
 grind
theorem ak8 {d:a6} (h:d.m=0):bo d=0:=by unfold bo;rw[ak5 h];rfl
def aD (n:Int):R:=R.rat (n:Int)
theorem gW (a b:Int):aD (a+b)=aD a+aD b:=by unfold aD;rw[Rat.intCast_add,P6]
theorem jQ (a b:Int):aD (a*b)=aD a*aD b:=by unfold aD;rw[Rat.intCast_mul,G7]
theorem jD (a:Int):aD (-a)= -aD a:=by unfold aD;rw[Rat.intCast_neg,aa1]
theorem eB {a b:Int} :aD a≤aD b↔a≤b:=by unfold aD;rw[Hn];exact Rat.intCast_le_intCast
theorem qV {a b:Int} :aD a<aD b↔a<b:=by unfold aD;rw[Da];exact Rat.intCast_lt_intCast
theorem p4:aD 0=0:=rfl
theorem fY:aD 1=1:=rfl
theorem gH (n:Nat):aD (2^n)=aK n:=by unfold aD aK;rw[P5]
theorem pC {E:Int} {d:a6} (l:fN E d):bo d=aD (d.V E)*aK E:=by unfold bo aD aK;rw[kh l,G7]
theorem p7 (k:Int):aK k*aK (-k)=1:=by rw[←k7,Int.add_right_neg];rfl
def ff (I:bP) (x δ:R):Prop:=bo I.lo≤x∧x≤bo I.hi∧x≤bo I.lo+δ∧bo I.hi≤x+δ
theorem ff.up {I:bP} {x δ ε:R} (h:ff I x δ) (l:δ≤ε):ff I x ε:=by unfold ff at*;grind
theorem Lu {I J:bP} {x y δ ε:R} (h:ff I x δ) (k:ff J y ε):ff (dJ I J) (x+y) (δ+ε):=by
 unfold ff dJ at*;simp only[y7];grind
theorem Lf {I:bP} {x δ:R} (h:ff I x δ):ff (dd I) (-x) δ:=by
 unfold ff dd at*;simp only[uR];grind
theorem aku {I:bP} {x δ:R} (h:ff I x δ) (k:Int):ff (gV I k) (x*aK k) (δ*aK k):=by
 unfold ff gV at*;simp only[GS]
 have p:=eV k
 have a:=cl (show 0≤x - bo I.lo by grind) (show 0≤aK k by grind)
 have b:=cl (show 0≤bo I.hi - x by grind) (show 0≤aK k by grind)
 have c:=cl (show 0≤bo I.lo+δ - x by grind) (show 0≤aK k by grind)
 have d:=cl (show 0≤x+δ - bo I.hi by grind) (show 0≤aK k by grind)
 grind
theorem O0:∀(l:List a6) (m:a6),bo (er gA m l)≤bo m∧∀y∈l,bo (er gA m l)≤bo y
 |[],m=>⟨by show bo m≤bo m;grind,fun y h=>by cases h⟩
 |y::l,m=>by
  show bo (er gA (if gA y m=true then y else m) l)≤bo m∧∀z∈y::l,bo (er gA (if gA y m=true then y else m) l)≤bo z
  have cM:=O0 l (if gA y m=true then y else m)
  have h1:bo (if gA y m=true then y else m)≤bo m∧bo (if gA y m=true then y else m)≤bo y:=by
   split
   ·rename_i h
    have:=Hx.1 (of_decide_eq_true h)
    grind
   ·rename_i h
    have:¬bo y<bo m:=fun k=>h (decide_eq_true (Hx.2 k))
    grind
  refine⟨by grind,fun z br=> ?_⟩
  rcases List.mem_cons.1 br with rfl|br
  ·grind
  ·exact cM.2 z br
theorem OH:∀(l:List a6) (m:a6),bo m≤bo (er gB m l)∧∀y∈l,bo y≤bo (er gB m l)
 |[],m=>⟨by show bo m≤bo m;grind,fun y h=>by cases h⟩
 |y::l,m=>by
  show bo m≤bo (er gB (if gB y m=true then y else m) l)∧∀z∈y::l,bo z≤bo (er gB (if gB y m=true then y else m) l)
  have cM:=OH l (if gB y m=true then y else m)
  have h1:bo m≤bo (if gB y m=true then y else m)∧bo y≤bo (if gB y m=true then y else m):=by
   split
   ·rename_i h
    have h:ej y m>0:=of_decide_eq_true h
    have:¬bo y≤bo m:=fun k=>by have:=qc.2 k;omega
    grind
   ·rename_i h
    have h:¬ej y m>0:=fun k=>h (decide_eq_true k)
    have:bo y≤bo m:=qc.1 (by omega)
    grind
  refine⟨by grind,fun z br=> ?_⟩
  rcases List.mem_cons.1 br with rfl|br
  ·grind
  ·exact cM.2 z br
theorem OI {l x h c m:R} (h1:l≤x) (h2:x≤h) (a:m≤l*c) (b:m≤h*c):m≤x*c:=by
 rcases Std.le_total (a:=0) (b:=c)with k|k
 ·have:=cl (show 0≤x - l by grind) k
  grind
 ·have:=cl (show 0≤h - x by grind) (show 0≤-c by grind)
  grind
theorem P8 {l x h p y q m:R} (h1:l≤x) (h2:x≤h) (aq:p≤y) (aE:y≤q) (b1:m≤l*p) (ep:m≤l*q) (oP:m≤h*p) (eM:m≤h*q):m≤x*y:=by
 have a4:=OI (m:=m) (c:=l) aq aE (by grind) (by grind)
 have bc:=OI (m:=m) (c:=h) aq aE (by grind) (by grind)
 exact OI h1 h2 (by grind) (by grind)
theorem ZX {l x h p y q m:R} (h1:l≤x) (h2:x≤h) (aq:p≤y) (aE:y≤q) (b1:l*p≤m) (ep:l*q≤m) (oP:h*p≤m) (eM:h*q≤m):x*y≤m:=by
 have:=P8 (m:= -m) (l:= -h) (x:= -x) (h:= -l) (by grind) (by grind) aq aE (by grind) (by grind) (by grind) (by grind)
 grind
theorem tp {a b δ ε:R} (h1: -δ≤a) (h2:a≤δ) (aq: -ε≤b) (aE:b≤ε): -(δ*ε)≤a*b∧a*b≤δ*ε:=by
 have p1:=cl (show 0≤δ - a by grind) (show 0≤ε+b by grind)
 have cU:=cl (show 0≤δ+a by grind) (show 0≤ε - b by grind)
 have gT:=cl (show 0≤δ - a by grind) (show 0≤ε - b by grind)
 have Aq:=cl (show 0≤δ+a by grind) (show 0≤ε+b by grind)
 constructor<;>grind
theorem aiu {x y δ ε u v:R} (aj: -1≤x∧x≤1) (hy: -1≤y∧y≤1) (h1:x - δ≤u∧u≤x+δ) (h2:y - ε≤v∧v≤y+ε):x*y - (δ+ε+δ*ε)≤u*v∧u*v≤x*y+(δ+ε+δ*ε):=by
 have a:=tp (a:=u - x) (b:=v - y) (δ:=δ) (ε:=ε) (by grind) (by grind) (by grind) (by grind)
 have b:=tp (a:=u - x) (b:=y) (δ:=δ) (ε:=1) (by grind) (by grind) (by grind) (by grind)
 have c:=tp (a:=x) (b:=v - y) (δ:=1) (ε:=ε) (by grind) (by grind) (by grind) (by grind)
 have e:u*v=x*y+(u - x)*(v - y)+(u - x)*y+x*(v - y):=by grind
 rw[e]
 constructor<;>grind
theorem Lv {I J:bP} {x y δ ε:R} (aj: -1≤x∧x≤1) (hy: -1≤y∧y≤1) (h:ff I x δ) (k:ff J y ε):ff (cP I J) (x*y) (δ+ε+δ*ε):=by
 obtain⟨b1,ep,oP,eM⟩:=h
 obtain⟨cy,aR,aW,aS⟩:=k
 have l:=O0 [cD I.lo J.hi,cD I.hi J.lo,cD I.hi J.hi] (cD I.lo J.lo)
 have g:=OH [cD I.lo J.hi,cD I.hi J.lo,cD I.hi J.hi] (cD I.lo J.lo)
 have hm:=GR I J
 obtain⟨A,hA⟩:∃A,A=cP I J:=⟨_,rfl⟩
 have ahB:A.lo=er gA (cD I.lo J.lo) [cD I.lo J.hi,cD I.hi J.lo,cD I.hi J.hi]:=by rw[hA];rfl
 have ahC:A.hi=er gB (cD I.lo J.lo) [cD I.lo J.hi,cD I.hi J.lo,cD I.hi J.hi]:=by rw[hA];rfl
 rw[←hA]at hm⊢
 rw[←ahB]at l
 rw[←ahC]at g
 have g3:=l.2 (cD I.lo J.hi) (by simp)
 have Cx:=l.2 (cD I.hi J.lo) (by simp)
 have uE:=l.2 (cD I.hi J.hi) (by simp)
 have c7:=l.1
 have c9:=g.2 (cD I.lo J.hi) (by simp)
 have fM:=g.2 (cD I.hi J.lo) (by simp)
 have rZ:=g.2 (cD I.hi J.hi) (by simp)
 have cC:=g.1
 clear l g ahB ahC hA
 simp only[Ho]at c7 g3 Cx uE cC c9 fM rZ
 have au:∀z∈j8 I J,x*y - (δ+ε+δ*ε)≤bo z∧bo z≤x*y+(δ+ε+δ*ε):=by
  intro z br
  simp only[j8,List.mem_cons,List.mem_nil_iff,or_false]at br
  rcases br with rfl|rfl|rfl|rfl<;>rw[Ho]<;>exact aiu aj hy (by grind) (by grind)
 exact⟨P8 b1 ep cy aR c7 g3 Cx uE,ZX b1 ep cy aR cC c9 fM rZ,by have:=(au _ hm.1).1;grind,by have:=(au _ hm.2).2;grind⟩
end RV.Dr
namespace RV.Dr
open RV RR
set_option linter.unusedSimpArgs false
set_option linter.unusedVariables false
theorem CV:(0:R)<1:=by have:=s6;have:=qz;grind
theorem alN (n:Nat) (v:Int):(v - ec n v)*2^n≤2*(v.natAbs:Int):=by
 unfold ec
 by_cases ah:bp v.natAbs≤n
 ·rw[Nat.sub_eq_zero_of_le ah,Int.pow_zero,Int.ediv_one,Int.mul_one,Int.sub_self,Int.zero_mul];omega
 ·have h0:v.natAbs≠0:=fun e=>by rw[e,eE]at ah;omega
  have h1:=Oj h0
  have e:v - v / 2^(bp v.natAbs - n)*2^(bp v.natAbs - n)=v % 2^(bp v.natAbs - n):=by
   have:=Int.emod_add_mul_ediv v (2^(bp v.natAbs - n))
   rw[Int.mul_comm]at this;omega
  rw[e]
  have h2:=Int.emod_lt_of_pos v (tn (bp v.natAbs - n))
  have aq:v % 2^(bp v.natAbs - n)*2^n≤2^(bp v.natAbs - n)*2^n:=Int.mul_le_mul_of_nonneg_right (by omega) (Int.le_of_lt (tn n))
  rw[←Int.pow_add,show bp v.natAbs - n+n=(bp v.natAbs - 1)+1 by omega,Int.pow_succ]at aq
  have aE:((2^(bp v.natAbs - 1):Nat):Int)=2^(bp v.natAbs - 1):=Int.natCast_pow 2 _
  omega
theorem Lw (a b:Int):aD (a - b)=aD a - aD b:=by rw[Int.sub_eq_add_neg,gW,jD];grind
theorem xR {a t s B:R} (h:a*t≤B) (q:t*s=1) (ps:0<s):a≤B*s:=by
 have:=cl (show 0≤B - a*t by grind) (show 0≤s by grind)
 have e:(B - a*t)*s=B*s - a*(t*s):=by grind
 rw[e,q]at this
 grind
theorem Lg (n:Nat) (v:Int) {B:R} (h1:aD v≤B) (h2: -B≤aD v):aD v - aD (ec n v)≤(B+B)*aK (-n):=by
 have h:=alN n v
 rw[←eB,jQ,jQ,Lw,gH]at h
 have aQ:aD (v.natAbs:Int)≤B:=by
  rcases (by omega:(v.natAbs:Int)=v∨(v.natAbs:Int)= -v)with e|e
  ·rw[e];exact h1
  ·rw[e,jD];grind
 have bc:aD 2=1+1:=by rw[show (2:Int)=1+1 by decide,gW,fY]
 rw[bc]at h
 have p:=eV (-(n:Int))
 have q:=p7 (n:Int)
 exact xR (by grind) q p
theorem aa2 {d:a6} (ok:d.ok) (n:Nat) {A:R} (h1:bo d≤A) (h2: -A≤bo d):
 (bo (gy d n false)≤bo d∧bo d≤bo (gy d n false)+A*aK (1 - n))∧(bo d≤bo (gy d n true)∧bo (gy d n true)≤bo d+A*aK (1 - n)):=by
 have l:fN d.e d:=fun _=>Int.le_refl _
 rw[pC l,pC (l.cut n _),pC (l.cut n _),QN ok l,QN ok l]
 rw[pC l]at h1 h2
 generalize d.V d.e=v at*
 have p:=eV d.e
 have q:=p7 d.e
 obtain⟨t,ah⟩:∃t,t=aK d.e:=⟨_,rfl⟩
 obtain⟨s,aG⟩:∃s,s=aK (-d.e):=⟨_,rfl⟩
 have ps:0<s:=aG▸eV _
 rw[←ah,←aG]at q
 rw[←ah]at p h1 h2⊢
 have cy:aD v≤A*s:=xR h1 q ps
 have aR: -(A*s)≤aD v:=by
  have:=xR (a:= -aD v) (B:=A) (by grind) q ps
  grind
 have d1:=akp (n:=n) v
 have d2:=acn (n:=n) v
 rw[←eB]at d1 d2
 have a4:=Lg n v cy aR
 have bc:=Lg n (-v) (B:=A*s) (by rw[jD];grind) (by rw[jD];grind)
 have bs:h3 n false v=ec n v:=by unfold h3;rw[if_neg (by decide)]
 have bq:h3 n true v= -(ec n (-v)):=by unfold h3;rw[if_pos rfl]
 rw[bs]at d1⊢
 rw[bq,jD]at d2⊢
 rw[jD]at bc
 have c8:aK (1 - n)=aK (-n)+aK (-n):=by rw[←ph];congr 1;omega
 rw[c8]
 obtain⟨z,br⟩:∃z,z=aK (-(n:Int)):=⟨_,rfl⟩
 rw[←br]at a4 bc⊢
 have f1:=cl (show 0≤(A*s+A*s)*z - (aD v - aD (ec n v))by grind) (show 0≤t by grind)
 have f2:=cl (show 0≤(A*s+A*s)*z - (-aD v - aD (ec n (-v)))by grind) (show 0≤t by grind)
 have f3:=cl (show 0≤aD v - aD (ec n v)by grind) (show 0≤t by grind)
 have f4:=cl (show 0≤-aD (ec n (-v)) - aD v by grind) (show 0≤t by grind)
 have cC:((A*s+A*s)*z - (aD v - aD (ec n v)))*t=(A*z+A*z)*(t*s) - (aD v*t - aD (ec n v)*t):=by grind
 have c9:((A*s+A*s)*z - (-aD v - aD (ec n (-v))))*t=(A*z+A*z)*(t*s)+aD v*t+aD (ec n (-v))*t:=by grind
 rw[cC,q]at f1
 rw[c9,q]at f2
 refine⟨⟨by grind,by grind⟩,by grind,by grind⟩
def bP.ok (I:bP):Prop:=I.lo.ok∧I.hi.ok
theorem acr {I:bP} {x δ A:R} {n:Nat} (ok:bP.ok I) (h:ff I x δ) (h1:x+δ≤A) (h2: -A≤x - δ):ff (qh I n) x (δ+A*aK (1 - n)):=by
 unfold ff at*
 have d:0≤δ:=by grind
 have a:=(aa2 ok.1 n (A:=A) (by grind) (by grind)).1
 have b:=(aa2 ok.2 n (A:=A) (by grind) (by grind)).2
 unfold qh
 simp only
 refine⟨by grind,by grind,by grind,by grind⟩
theorem ak9 {x:a6} (ok:x.ok) (h:0≤bo x):x.neg=false:=by
 cases aj:x.neg with
 |false=>rfl
 |true=>
  exfalso
  have h0:x.m≠0:=fun e=>by have:=(ok.1 e).1;rw[this]at aj;cases aj
  have:ia x<0:=by unfold ia;rw[if_neg h0,if_pos aj];decide
  have:=XE.1 this
  have h:R.rat 0≤R.rat (jx x):=h
  rw[Hn]at h
  grind
theorem alO (n k:Nat) (aQ:1≤n):r1 n ((2:Int)^k):=by
 unfold r1
 have e:((2:Int)^k).natAbs=1*2^k:=by rw[Int.natAbs_pow,Nat.one_mul];rfl
 rw[e,p2 (by decide)]
 have:bp 1=1:=by decide+kernel
 exact AU (by omega)
theorem ZY {x:a6} (ok:x.ok) {n:Nat} (aQ:1≤n) (h0:0≤bo x) (h1:bo x≤1) {y:R} (xC:0≤y) (hy:y*y=bo x):
 (0≤bo (eo x n false)∧bo (eo x n false)≤y∧y≤bo (eo x n false)+aK (3 - n))∧(y≤bo (eo x n true)∧bo (eo x n true)≤y+aK (3 - n)∧bo (eo x n true)≤1):=by
 have neg:=ak9 ok h0
 obtain⟨E,eN,ap5,asH⟩:∃E:Int,E+1≤(x.e - gu x n) / 2∧2*E≤x.e∧E≤0:=⟨min (min ((x.e - gu x n) / 2 - 1) (x.e / 2)) 0,by omega,by omega,by omega⟩
 have da:fN (2*E) x:=fun _=>ap5
 obtain⟨⟨s1,s2,_⟩,t1,t2,t3⟩:=ajJ aQ eN da neg
 have bX:=Lt aQ eN false
 have ch:=Lt aQ eN true
 have rs:=aaU aQ eN da neg
 rw[pC (aaT eN false),pC (aaT eN true)]
 rw[pC da]at hy h1
 have ap6:aK (2*E)=aK E*aK E:=by rw[←k7];congr 1;omega
 rw[ap6]at hy h1
 have hP:=eV E
 have tg:y≤1:=RR.gX (by have:=CV;grind) (by grind)
 have asd:aD (2^(-E).toNat)*aK E=1:=by
  rw[gH]
  have:=p7 (-E)
  rw[show ((-E).toNat:Int)= -E by omega]
  rw[Int.neg_neg]at this;exact this
 have vJ:aD ((eo x n true).V E)*aK E≤1:=by
  have:=t3 (2^(-E).toNat) (Int.le_of_lt (tn _)) (alO n _ aQ) (by
   rw[←eB,jQ]
   have ps:0<aD (2^(-E).toNat):=by rw[gH];exact eV _
   have q:aK E*aD (2^(-E).toNat)=1:=by grind
   have bE:=xR (a:=aD (x.V (2*E))*aK E) (t:=aK E) (B:=1) (by grind) q ps
   have bM:=xR bE q ps
   grind)
  rw[←eB]at this
  have:=cl (show 0≤aD (2^(-E).toNat) - aD ((eo x n true).V E)by grind) (show 0≤aK E by grind)
  grind
 have xe:0≤aD ((eo x n false).V E)*aK E:=by
  have VY:0≤aD ((eo x n false).V E):=by rw[←p4,eB];exact s1
  exact cl VY (by grind)
 have NR:aD ((eo x n false).V E)*aK E≤y:=by
  refine RR.gX xC ?_
  rw[←eB,jQ]at s2
  have:=cl (show 0≤aD (x.V (2*E)) - aD ((eo x n false).V E)*aD ((eo x n false).V E)by grind) (cl (show 0≤aK E by grind) (show 0≤aK E by grind))
  grind
 have I8:y≤aD ((eo x n true).V E)*aK E:=by
  have ap7:0≤aD ((eo x n true).V E):=by rw[←p4,eB];exact t1
  refine RR.gX (cl ap7 (by grind)) ?_
  rw[←eB,jQ]at t2
  have:=cl (show 0≤aD ((eo x n true).V E)*aD ((eo x n true).V E) - aD (x.V (2*E))by grind) (cl (show 0≤aK E by grind) (show 0≤aK E by grind))
  grind
 obtain⟨a,a9⟩:∃a,a=aK (-(n:Int)):=⟨_,rfl⟩
 obtain⟨b,aw⟩:∃b,b=aK (-(n:Int) - 2):=⟨_,rfl⟩
 have tc:0<b:=aw▸eV _
 have asI:a=b+b+(b+b):=by
  have a4:=ph (-(n:Int) - 2)
  have bc:=ph (-(n:Int) - 2+1)
  rw[show -(n:Int) - 2+1+1= -n by omega]at bc
  rw[a9,aw];grind
 have pV:aK (3 - n)=a+a+(a+a)+(a+a+(a+a)):=by
  have a4:=ph (-(n:Int))
  have bc:=ph (-(n:Int)+1)
  have c8:=ph (-(n:Int)+1+1)
  rw[show -(n:Int)+1+1+1=3 - n by omega]at c8
  rw[a9];grind
 have asJ:a+a≤1:=by
  have a4:=ph (-(n:Int))
  have:=ve (a:= -(n:Int)+1) (b:=0) (by omega)
  rw[P7]at this
  rw[a9];grind
 have hm:=Ph x n
 rw[pV]
 rw[rs]at hy
 clear rs s1 s2 t1 t2 t3
 generalize Hw x n E=p at*
 by_cases cJ:zc x n=0
 ·rw[cJ,AG]at bX ch
  rw[cJ]at hy
  have dg:(eo x n false).V E=0:=by rw[bX];simp[h3,P0]
  have dP:(eo x n true).V E=0:=by rw[ch];simp[h3,P0]
  have Vo:y*y=0*0:=by rw[hy];simp only[Int.natCast_zero,Int.mul_zero,Int.zero_mul,p4];grind
  have asK:y=0:=acq xC (by grind) Vo
  rw[dg]at xe NR⊢
  rw[dP]at I8 vJ⊢
  rw[p4]at*
  refine⟨⟨xe,NR,by grind⟩,I8,by grind,vJ⟩
 ·have cf:=QO aQ hm cJ
  obtain⟨M,arE⟩:∃M,M=zc x n:=⟨_,rfl⟩
  rw[←arE]at bX ch hy cJ cf
  have dw:((cQ M:Int) - 1)*((cQ M:Int) - 1)≤4*M∧4*(M:Int)≤((cQ M:Int)+1)*((cQ M:Int)+1):=by
   have i1:=(pf M).1
   have i2:=(pf M).2
   have bR:((a5 M*a5 M:Nat):Int)=(a5 M:Int)*(a5 M:Int):=Int.natCast_mul _ _
   have cN:(((a5 M+1)*(a5 M+1):Nat):Int)=((a5 M:Int)+1)*((a5 M:Int)+1):=by rw[Int.natCast_mul];rfl
   have fL:((a5 M:Int)+1)*((a5 M:Int)+1)=(a5 M:Int)*(a5 M:Int)+2*(a5 M:Int)+1:=by grind
   rcases CI M with ⟨a4,bc⟩|⟨a4,bc⟩
   ·rw[bc]
    have Gd:(((2*a5 M:Nat):Int) - 1)*(((2*a5 M:Nat):Int) - 1)=4*((a5 M:Int)*(a5 M:Int)) - 4*(a5 M:Int)+1:=by grind
    have arF:(((2*a5 M:Nat):Int)+1)*(((2*a5 M:Nat):Int)+1)=4*((a5 M:Int)*(a5 M:Int))+4*(a5 M:Int)+1:=by grind
    rw[bc]at cf
    have:=tn (n+2)
    omega
   ·rw[bc]
    have Gd:(((2*a5 M+1:Nat):Int) - 1)*(((2*a5 M+1:Nat):Int) - 1)=4*((a5 M:Int)*(a5 M:Int)):=by grind
    have arF:(((2*a5 M+1:Nat):Int)+1)*(((2*a5 M+1:Nat):Int)+1)=4*((a5 M:Int)*(a5 M:Int))+8*(a5 M:Int)+4:=by grind
    omega
  obtain⟨eK,e9⟩:=dw
  rw[←eB]at eK e9 cf
  simp only[jQ,gW,Lw,fY]at eK e9 hy
  rw[gH]at cf
  obtain⟨v,aC⟩:∃v:Int,v=(cQ M:Int)*2^p:=⟨_,rfl⟩
  have arG:0<aD (2^p):=by rw[gH];exact eV _
  have atc:aK (n+2)≤aD (cQ M:Int):=by rw[show (n:Int)+2=((n+2:Nat):Int)by omega];exact cf
  have WO:aD v=aD (cQ M:Int)*aD (2^p):=by rw[aC,jQ]
  rw[←aC]at bX ch
  have b8:h3 n false v=ec n v:=by unfold h3;rw[if_neg (by decide)]
  have cL:h3 n true v= -(ec n (-v)):=by unfold h3;rw[if_pos rfl]
  rw[bX,b8]at xe NR⊢
  rw[ch,cL,jD]at I8 vJ⊢
  have WQ:0≤aD (cQ M:Int):=by have:=eV ((n:Int)+2);grind
  have arH:0≤aD v:=by rw[WO];exact cl WQ (by grind)
  have f1:=Lg n v (B:=aD v) (by grind) (by grind)
  have f2:=Lg n (-v) (B:=aD v) (by rw[jD];grind) (by rw[jD];grind)
  rw[jD,←a9]at f2
  rw[←a9]at f1
  have JL:aK (n+2)*b=1:=by have:=p7 ((n:Int)+2);rw[show -((n:Int)+2)= -n - 2 by omega,←aw]at this;exact this
  rw[WO]at f1 f2
  clear bX ch b8 cL aC arH cf hm cJ pV a9 aw WO
  generalize aD (ec n v)=L at*
  generalize aD (ec n (-v))=H at*
  generalize aD (cQ M:Int)=T at*
  generalize aD (2^p)=P at*
  generalize aK E=z at*
  generalize aD 4*aD (M:Int)=F at*
  generalize aK ((n:Int)+2)=c at*
  have kt:0<P*z:=wA arG hP
  obtain⟨t,ah⟩:∃t,t=P*z:=⟨_,rfl⟩
  rw[←ah]at kt
  have cC:T*t - t≤y:=by
   refine RR.gX xC ?_
   have:=cl (show 0≤F - (T - 1)*(T - 1)by grind) (cl (show 0≤t by grind) (show 0≤t by grind))
   rw[hy,show (T*t - t)*(T*t - t)=(T - 1)*(T - 1)*(t*t)by grind,show F*(P*P)*(z*z)=F*(t*t)by grind]
   grind
  have c9:y≤T*t+t:=by
   have atd:=cl WQ (show 0≤t by grind)
   refine RR.gX (by grind) ?_
   have:=cl (show 0≤(T+1)*(T+1) - F by grind) (cl (show 0≤t by grind) (show 0≤t by grind))
   rw[hy,show (T*t+t)*(T*t+t)=(T+1)*(T+1)*(t*t)by grind,show F*(P*P)*(z*z)=F*(t*t)by grind]
   grind
  have fM:t≤T*t*b:=by
   have:=cl (show 0≤T - c by grind) (cl (show 0≤t by grind) (show 0≤b by grind))
   have e:(T - c)*(t*b)=T*t*b - t*(c*b):=by grind
   rw[e,JL]at this
   grind
  have rZ:T*P*z - L*z≤(T*P*z+T*P*z)*a:=by
   have:=cl (show 0≤(T*P+T*P)*a - (T*P - L)by grind) (show 0≤z by grind)
   grind
  have JR: -H*z - T*P*z≤(T*P*z+T*P*z)*a:=by
   have:=cl (show 0≤(T*P+T*P)*a - (-(T*P) - H)by grind) (show 0≤z by grind)
   grind
  have JS:T*P*z=T*t:=by rw[ah];grind
  rw[JS]at rZ JR
  have bN:=cl WQ (show 0≤t by grind)
  generalize T*t=u at*
  have bq:u≤1+1:=by
   refine Std.not_lt.1 fun k=> ?_
   have:=cl (show 0≤u - (1+1)by grind) (show 0≤1 - (b+b)by grind)
   grind
  have p1:=cl (show 0≤(1+1) - u by grind) (show 0≤b by grind)
  have cU:=cl (show 0≤(1+1) - u by grind) (show 0≤a by grind)
  refine⟨⟨xe,NR,by grind⟩,I8,by grind,vJ⟩
end RV.Dr
namespace RV.Dr
open RV RR
set_option linter.unusedSimpArgs false
set_option linter.unusedVariables false
theorem ala {I:bP} {x δ τ y:R} {n:Nat} (ok:bP.ok I) (h:ff I x δ) (aQ:1≤n) (xe:0≤bo I.lo) (vJ:bo I.hi≤1) (xC:0≤y) (hy:y*y=x)
 (h1:∀z,0≤z→z*z≤x→x≤z*z+δ→y≤z+τ) (h2:∀z,0≤z→x≤z*z→z*z≤x+δ→z≤y+τ):
 ff (tB I n) y (τ+aK (3 - n))∧0≤bo (tB I n).lo∧bo (tB I n).hi≤1:=by
 obtain⟨b1,ep,oP,eM⟩:=h
 have r:=qN xe
 have s:=qN (x:=bo I.hi) (by grind)
 have a4:=(ZY ok.1 aQ xe (by grind) r.1 r.2).1
 have bc:=(ZY ok.2 aQ (by grind) vJ s.1 s.2).2
 have bE:=h1 _ r.1 (by rw[r.2];exact b1) (by rw[r.2];exact oP)
 have bM:=h2 _ s.1 (by rw[s.2];exact ep) (by rw[s.2];exact eM)
 have bn:jN (bo I.lo)≤y:=RR.gX xC (by rw[r.2,hy];exact b1)
 have h5:y≤jN (bo I.hi):=RR.gX s.1 (by rw[s.2,hy];exact ep)
 unfold tB ff
 simp only
 refine⟨⟨by grind,by grind,by grind,by grind⟩,by grind,by grind⟩
theorem acs {x δ y:R} (xC:hf≤y) (hy:y*y=x):(∀z,0≤z→z*z≤x→x≤z*z+δ→y≤z+(δ+δ))∧(∀z,0≤z→x≤z*z→z*z≤x+δ→z≤y+(δ+δ)):=by
 have p:=s6
 have q:=qz
 constructor
 ·intro z Gf dg dP
  refine Std.not_lt.1 fun k=> ?_
  have m:=cl (show 0≤y - z by grind) (show 0≤y+z - hf by grind)
  have iX:=wA (show 0<y - z - (δ+δ)by grind) p
  have e:(y - z - (δ+δ))*hf=(y - z)*hf - δ*(hf+hf):=by grind
  rw[e,q]at iX
  grind
 ·intro z Gf dg dP
  refine Std.not_lt.1 fun k=> ?_
  have m:=cl (show 0≤z - y by grind) (show 0≤y+z - hf by grind)
  have iX:=wA (show 0<z - y - (δ+δ)by grind) p
  have e:(z - y - (δ+δ))*hf=(z - y)*hf - δ*(hf+hf):=by grind
  rw[e,q]at iX
  grind
theorem acu {x δ y τ:R} (xC:0≤y) (hy:y*y=x) (t0:0≤τ) (ah:δ≤τ*τ):(∀z,0≤z→z*z≤x→x≤z*z+δ→y≤z+τ)∧(∀z,0≤z→x≤z*z→z*z≤x+δ→z≤y+τ):=by
 constructor
 ·intro z Gf dg dP
  rcases Std.le_total (a:=y) (b:=z)with k|k
  ·grind
  ·have:y - z≤τ:=RR.gX t0 (by have:=cl (show 0≤y - z by grind) Gf;grind)
   grind
 ·intro z Gf dg dP
  rcases Std.le_total (a:=z) (b:=y)with k|k
  ·grind
  ·have:z - y≤τ:=RR.gX t0 (by have:=cl (show 0≤z - y by grind) xC;grind)
   grind
theorem P9:aK (-1)=hf:=by
 have a:=ph (-1)
 have b:=qz
 have c:=s6
 have e:aK (-1+1)=1:=rfl
 rw[e]at a
 have z:(hf+hf)*(aK (-1) - hf)=0:=by grind
 rw[b]at z
 grind
theorem Bg:ff i1 1 0:=by
 have:bo d1=1:=by
  rw[pC (E:=0) (fun _=>by show (0:Int)≤0;omega)]
  have e:d1.V 0=1:=by decide+kernel
  rw[e];show aD 1*1=1;rw[fY];grind
 unfold ff i1
 simp only[this]
 grind
theorem akv {I:bP} {n:Nat} (h:0≤bo I.lo):gI I n=tB (gV I (-1)) n:=by
 unfold gI
 rw[if_neg]
 intro k
 have:=XE.1 k
 have bM:bo (gU I.lo (-1))<0:=by
  show R.rat _<R.rat 0
  rw[Da];exact this
 rw[GS]at bM
 have:=cl h (show 0≤aK (-1)by have:=eV (-1);grind)
 grind
theorem Lh {I:bP} {x δ τ y:R} {n:Nat} (ok:bP.ok I) (h:ff I x δ) (aQ:1≤n) (xe:0≤bo I.lo) (vJ:bo I.hi≤1+1) (xC:0≤y) (hy:y*y=hf*x)
 (h1:∀z,0≤z→z*z≤hf*x→hf*x≤z*z+hf*δ→y≤z+τ) (h2:∀z,0≤z→hf*x≤z*z→z*z≤hf*x+hf*δ→z≤y+τ):
 ff (gI I n) y (τ+aK (3 - n))∧0≤bo (gI I n).lo∧bo (gI I n).hi≤1:=by
 rw[akv xe]
 have s:=aku h (-1)
 rw[P9,show x*hf=hf*x by grind,show δ*hf=hf*δ by grind]at s
 have p:=s6
 have q:=qz
 refine ala ⟨qS ..,qS ..⟩ s aQ ?_ ?_ xC hy h1 h2
 ·unfold gV
  simp only[GS,P9]
  exact cl xe (by grind)
 ·unfold gV
  simp only[GS,P9]
  have:=cl (show 0≤1+1 - bo I.hi by grind) (show 0≤hf by grind)
  grind
theorem A2 {lo hi:Int} {I:bP} (h:I.win lo hi):bP.ok I:=⟨h.1.1,h.2.1⟩
theorem KH {I J:bP} (h:bP.ok I) (k:bP.ok J):bP.ok (dJ I J):=⟨Lb h.1 k.1,Lb h.2 k.2⟩
theorem adg {c y:R} (h0:0≤y) (au:0≤c) (hy:y*y=hf*(1+c)):hf≤y:=by
 have p:=s6
 have q:=qz
 refine RR.gX h0 ?_
 have:=cl au (show 0≤hf by grind)
 have e:hf*hf*(1+1)=hf*(hf+hf):=by grind
 rw[q]at e
 rw[hy];grind
theorem alb {n:Nat} (aQ:1≤n) {τ:R} (t0:0≤τ) (ah:aK (6 - n)≤τ*τ):∀k:Nat,k≤14→
 (ff (aC n k).c (au k) (aD (k+1)*aK (3 - n))∧0≤bo (aC n k).c.lo∧bo (aC n k).c.hi≤1)∧(ff (aC n k).s (aG k) (τ+aK (3 - n))∧0≤bo (aC n k).s.lo∧bo (aC n k).s.hi≤1):=by
 have p:=s6
 have q:=qz
 have cm:=eV (3 - n)
 have pV:aK (6 - n)=aD 8*aK (3 - n):=by
  rw[show (8:Int)=2^3 by decide,gH,←k7];congr 1;omega
 have NS:bP.ok i1:=A2 (Ev (lo:=0) (hi:=1) (by omega) (by omega))
 intro k
 induction k with
 |zero=>
  intro _
  have r:=qN (x:=hf) (by grind)
  have iR:=Bg
  have aJ:0≤bo i1.lo:=by unfold ff at iR;grind
  have dW:bo i1.hi≤1+1:=by unfold ff at iR;grind
  have a4:(aD ((0:Nat)+1):R)=1:=fY
  have ap8:hf*1=hf:=by grind
  have hfz:hf*(0:R)=0:=by grind
  have c:=acs (x:=hf*1) (δ:=hf*0) (y:=jN hf) (by
   have:=adg (c:=0) r.1 (by grind) (by rw[r.2];grind);exact this) (by rw[r.2];grind)
  have s:=acu (x:=hf*1) (δ:=hf*0) (y:=jN hf) (τ:=τ) r.1 (by rw[r.2];grind) t0 (by have:=eV (6 - n);grind)
  refine⟨?_,Lh NS iR aQ aJ dW r.1 (r.2.trans ap8.symm) s.1 s.2⟩
  have:=Lh NS iR aQ aJ dW r.1 (by rw[r.2];grind) c.1 c.2
  refine⟨this.1.up (by rw[a4];grind),this.2⟩
 |succ k cM=>
  intro af
  obtain⟨⟨b1,ep,oP⟩,-⟩:=cM (by omega)
  obtain⟨e8,bR,tb,asL⟩:=LH k
  have ap9:bP.ok (aC n k).c:=A2 (zr (by omega) k).1
  have iR:=Lu Bg b1
  have pT:=Lu Bg (Lf b1)
  have r:=qN (x:=hf*(1+au k)) (cl (by grind) (by grind))
  have t:=qN (x:=hf*(1 - au k)) (cl (by grind) (by grind))
  have v3:=Bg
  unfold ff at v3
  have c7:0≤bo (dJ i1 (aC n k).c).lo∧bo (dJ i1 (aC n k).c).hi≤1+1:=by
   unfold dJ;simp only[y7]
   constructor<;>grind
  have g3:0≤bo (dJ i1 (dd (aC n k).c)).lo∧bo (dJ i1 (dd (aC n k).c)).hi≤1+1:=by
   unfold dJ dd;simp only[y7,uR]
   constructor<;>grind
  have EK:(aD (k+1):R)≤aD 16:=eB.2 (by omega)
  have VZ:aD 16=aD 8+aD 8:=by rw[←gW];rfl
  have m:=cl (show 0≤aD 16 - aD (k+1)by grind) (show 0≤aK (3 - n)by grind)
  have c:=acs (x:=hf*(1+au k)) (δ:=hf*(0+aD (k+1)*aK (3 - n))) (adg r.1 e8 r.2) r.2
  have ek:aD ((k+1:Nat)+1)=aD (k+1)+1:=by rw[←fY,←gW];rfl
  have s:=acu (x:=hf*(1+ -au k)) (δ:=hf*(0+aD (k+1)*aK (3 - n))) (y:=jN (hf*(1 - au k))) (τ:=τ) t.1 (by rw[t.2];grind) t0 (by
   have iX:=cl (show 0≤aD 16*aK (3 - n) - aD (k+1)*aK (3 - n)by grind) (show 0≤hf by grind)
   have e:hf*(aD 16*aK (3 - n))=(hf+hf)*(aD 8*aK (3 - n)):=by rw[VZ];grind
   rw[q,←pV]at e
   grind)
  refine⟨?_,?_⟩
  ·have:=Lh (KH NS ap9) iR aQ c7.1 c7.2 r.1 r.2 c.1 c.2
   refine⟨this.1.up ?_,this.2⟩
   rw[ek]
   have e:hf*(0+aD (k+1)*aK (3 - n))+hf*(0+aD (k+1)*aK (3 - n))=(hf+hf)*(aD (k+1)*aK (3 - n)):=by grind
   rw[e,q];grind
  ·exact Lh (KH NS (A2 (r8 (zr (w:=(n:Int)) (by omega) k).1))) pT aQ g3.1 g3.2 t.1 (t.2.trans (by grind)) s.1 s.2
end RV.Dr
namespace RV.Dr
open RV RR
set_option linter.unusedSimpArgs false
set_option linter.unusedVariables false
def ku (p:dI) (z:bF) (δ:R):Prop:=ff p.c z.c1 δ∧ff p.s z.dA δ
theorem ku.up {p:dI} {z:bF} {δ ε:R} (h:ku p z δ) (l:δ≤ε):ku p z ε:=⟨h.1.up l,h.2.up l⟩
theorem GU {z:bF} (h:z.ju=1):(-1≤z.c1∧z.c1≤1)∧(-1≤z.dA∧z.dA≤1):=by
 unfold bF.ju at h
 have a:=OZ z.c1
 have b:=OZ z.dA
 have o:=CV
 have b1:z.c1≤1:=RR.gX (by grind) (by grind)
 have ep: -z.c1≤1:=RR.gX (by grind) (by grind)
 have cy:z.dA≤1:=RR.gX (by grind) (by grind)
 have aR: -z.dA≤1:=RR.gX (by grind) (by grind)
 grind
def dI.ok (p:dI):Prop:=bP.ok p.c∧bP.ok p.s
theorem Li (I J:bP):bP.ok (cP I J):=by
 have au:∀z∈j8 I J,z.ok:=by
  intro z br
  simp only[j8,List.mem_cons,List.mem_nil_iff,or_false]at br
  rcases br with rfl|rfl|rfl|rfl<;>exact qS ..
 exact⟨au _ (GR I J).1,au _ (GR I J).2⟩
theorem ZZ {I:bP} (h:bP.ok I):bP.ok (dd I):=⟨CT h.2,CT h.1⟩
theorem akw {p q:dI} {z u:bF} {δ ε σ:R} {n:Nat} (br:z.ju=1) (hu:u.ju=1) (h:ku p z δ) (k:ku q u ε) (d0:0≤δ) (d1:δ≤1) (cm:0≤ε) (a4:ε≤σ) (s1:σ≤1) (aQ:aK (4 - n)≤σ):
 ku (tC p q n) (z.mul u) (δ+δ+aD 5*σ):=by
 have a:=GU br
 have b:=GU hu
 have o:=CV
 have ate:=cl (show 0≤1 - δ by grind) cm
 have hh:=Lv a.1 b.1 h.1 k.1
 have iX:=Lv a.2 b.2 h.2 k.2
 have we:=Lv a.2 b.1 h.2 k.1
 have xx:=Lv a.1 b.2 h.1 k.2
 have VY:=Lu hh (Lf iX)
 have MO:=Lu we xx
 have eg:aD 5=1+1+1+1+1:=by rw[show (5:Int)=1+1+1+1+1 by decide];simp only[gW,fY]
 have aqa:aD 5*σ=σ+σ+σ+σ+σ:=by rw[eg];grind
 rw[aqa]
 have pV:aK (4 - n)=(1+1+(1+1)+(1+1+(1+1)))*aK (1 - n):=by
  have f1:=ph (1 - n)
  have f2:=ph (1 - n+1)
  have f3:=ph (1 - n+1+1)
  rw[show (1:Int) - n+1+1+1=4 - n by omega]at f3
  grind
 have iR:=tp (a:=z.c1) (b:=u.c1) (δ:=1) (ε:=1) (by grind) (by grind) (by grind) (by grind)
 have pT:=tp (a:=z.dA) (b:=u.dA) (δ:=1) (ε:=1) (by grind) (by grind) (by grind) (by grind)
 have Ao:=tp (a:=z.dA) (b:=u.c1) (δ:=1) (ε:=1) (by grind) (by grind) (by grind) (by grind)
 have yE:=tp (a:=z.c1) (b:=u.dA) (δ:=1) (ε:=1) (by grind) (by grind) (by grind) (by grind)
 have bE:=acr (n:=n) (A:=1+1+(1+1)+(1+1+(1+1))) (KH (Li _ _) (ZZ (Li _ _))) VY (by grind) (by grind)
 have bM:=acr (n:=n) (A:=1+1+(1+1)+(1+1+(1+1))) (KH (Li _ _) (Li _ _)) MO (by grind) (by grind)
 rw[←pV]at bE bM
 unfold ku tC bF.mul
 simp only
 constructor
 ·rw[show z.c1*u.c1 - z.dA*u.dA=z.c1*u.c1+ -(z.dA*u.dA)by grind]
  exact bE.up (by grind)
 ·rw[show z.c1*u.dA+z.dA*u.c1=z.dA*u.c1+z.c1*u.dA by grind]
  exact bM.up (by grind)
theorem QP:ku p0 bF.one 0:=by
 refine⟨Bg,?_⟩
 have:bo (⟨false,0,0⟩:a6)=0:=ak8 rfl
 unfold ff p0 bF.one
 simp only[this]
 grind
noncomputable def Ac (K Q:Nat):Nat→Nat→bF→bF
 |0,_,z=>z
 |k+1,q,z=>Ac K Q k (q+1) (if (K / 2^(Q - q)) % 2=1 then z.mul (un q)else z)
theorem Qw {K Q:Nat} :∀(k q:Nat) (z:bF),q+k=Q+1→Ac K Q k q z=z.mul ((un Q).pow (K % 2^k))
 |0,q,z,h=>by
  rw[Nat.pow_zero,Nat.mod_one]
  exact(bF.mul_one z).symm
 |k+1,q,z,h=>by
  unfold Ac
  rw[Qw k (q+1) _ (by omega),Nat.mod_pow_succ,show Q - q=k by omega,Nat.add_comm,bF.pow_add,bF.pow_mul]
  have e:(un Q).pow (2^k)=un q:=by
   have:=Qv q k
   rwa [show q+k=Q by omega]at this
  rw[e]
  rcases (by omega:K / 2^k % 2=1∨K / 2^k % 2=0)with b|b
  ·rw[b,if_pos rfl,bF.assoc]
   congr 2
   exact(bF.one_mul _).symm
  ·rw[b,if_neg (by decide)]
   show _=z.mul (bF.one.mul _)
   rw[bF.one_mul]
theorem Qx {K Q:Int} {n:Nat} {τ σ:R} (aQ:1≤n) (t0:0≤τ) (ah:aK (6 - n)≤τ*τ) (aG:τ+aK (3 - n)≤σ) (BS:aK (4 - n)≤σ) (agC:aD 16*aK (3 - n)≤σ) (s1:aD 5*σ*aD (2^12)≤1):
 ∀(k q m:Nat) {p:dI} {z:bF},3≤q→q+k≤17→m+k≤12→z.ju=1→ku p z ((aD (2^m) - 1)*(aD 5*σ))→ku (rE K Q n k q p) (Ac K.toNat Q.toNat k q z) ((aD (2^(m+k)) - 1)*(aD 5*σ))
 |0,q,m,p,z,_,_,_,br,h=>h
 |k+1,q,m,p,z,a7,af,hm,br,h=>by
  have gT:=eV (3 - n)
  have f0:0≤aD 5*σ:=cl (by rw[←p4,eB];decide) (by grind)
  have atf:1≤aD (2^m):=by
   rw[←fY,eB]
   have:=tn m
   omega
  have hh:aD (2^m)≤aD (2^12):=by
   rw[gH,gH];exact ve (by omega)
  have a4:aD (2^(m+1))=aD (2^m)+aD (2^m):=by
   rw[←gW];congr 1;rw[Int.pow_succ];omega
  have d0:=cl (show 0≤aD (2^m) - 1 by grind) f0
  have d1:=cl (show 0≤aD (2^12) - aD (2^m)by grind) f0
  have Vp:(aD (2^m) - 1)*(aD 5*σ)≤1:=by grind
  have aqb:1≤aD (2^12):=by rw[←fY,eB];decide
  have atg:1≤aD 5:=by rw[←fY,eB];decide
  have tb:=cl (show 0≤aD (2^12) - 1 by grind) f0
  have asM:=cl (show 0≤aD 5 - 1 by grind) (show 0≤σ by grind)
  have bc:(aD (2^(m+1)) - 1)*(aD 5*σ)=(aD (2^m) - 1)*(aD 5*σ)+(aD (2^m) - 1)*(aD 5*σ)+aD 5*σ:=by rw[a4];grind
  unfold rE Ac
  rw[show m+(k+1)=m+1+k by omega]
  have aC:=alb aQ t0 ah (q - 3) (by omega)
  have asN:aD ((q - 3:Nat)+1)≤aD 16:=eB.2 (by omega)
  by_cases aw:(K.toNat / 2^(Q.toNat - q)) % 2=1
  ·rw[if_pos aw,if_pos aw]
   refine Qx aQ t0 ah aG BS agC s1 k (q+1) (m+1) (by omega) (by omega) (by omega) (by rw[bF.P4,br,Hk];grind) ?_
   rw[bc]
   have JS:un q=⟨au (q - 3),RR.aG (q - 3)⟩:=by
    obtain⟨j,rfl⟩:∃j,q=j+3:=⟨q - 3,by omega⟩
    rfl
   refine akw (ε:=σ) br (Hk q) h ?_ d0 Vp (by grind) (by grind) (by grind) BS
   rw[JS]
   have VZ:=cl (show 0≤aD 16 - aD ((q - 3:Nat)+1)by grind) (show 0≤aK (3 - n)by grind)
   exact⟨aC.1.1.up (by grind),aC.2.1.up aG⟩
  ·rw[if_neg aw,if_neg aw]
   refine Qx aQ t0 ah aG BS agC s1 k (q+1) (m+1) (by omega) (by omega) (by omega) br (h.up ?_)
   rw[bc];grind
theorem Qa {a b:Nat} (h:a≤b):(2:Nat)^a≤2^b:=Nat.pow_le_pow_right (by decide) h
theorem alc {r n j:Nat} (ar:r≤144115188075855872) (a7:a2 r≤14) (aH:2*j+6≤n) (z1:16≤j):ku (rest (bS r) (a2 r) n) (pt r) (aK (16 - j)):=by
 have ath:=eV (-(j:Int))
 have asO:aK (1 - (j:Int))=aK (-(j:Int))+aK (-(j:Int)):=by rw[←ph];congr 1;omega
 by_cases h0:r=0
 ·subst h0
  rw[xS.1,xS.2]
  show ku p0 bF.one _
  exact QP.up (by have:=eV (16 - j);grind)
 ·have aJ:r<1152921504606846976:=by omega
  have bh:=Be aJ
  have e9:3≤a2 r:=by
   unfold a2
   rw[if_neg h0]
   have:=KG h0
   have:2^b2 r≤2^57:=Nat.le_trans this ar
   have:=(Nat.pow_le_pow_iff_right (a:=2) (by decide)).1 this
   omega
  have cj:bS r<2^(a2 r - 2):=by
   refine Nat.lt_of_mul_lt_mul_right (a:=2^(60 - a2 r)) ?_
   rw[bh,←Nat.pow_add,show a2 r - 2+(60 - a2 r)=58 by omega]
   exact Nat.lt_of_le_of_lt ar (by decide)
  have vF:pt r=(un (a2 r)).pow (bS r):=by
   rw[←wN (by omega) (bS r),bh]
  have t6:aK (6 - n)≤aK (-(j:Int))*aK (-(j:Int)):=by rw[←k7];exact ve (by omega)
  have t3:aK (3 - n)≤aK (-(j:Int)):=ve (by omega)
  have t4:aK (4 - n)≤aK (1 - (j:Int)):=ve (by omega)
  have t7:aD 16*aK (3 - n)≤aK (1 - (j:Int)):=by
   rw[show (16:Int)=2^4 by decide,gH,←k7];exact ve (by omega)
  have bm:aD 5≤aD (2^3):=eB.2 (by decide)
  have tb:=eV (1 - (j:Int))
  have asP:=cl (show 0≤aD (2^3) - aD 5 by grind) (show 0≤aK (1 - (j:Int))by grind)
  have VZ:aD (2^3)*aK (1 - (j:Int))*aD (2^12)=aK (16 - j):=by
   rw[gH,gH,←k7,←k7];congr 1;omega
  have aqb:1≤aD (2^12):=by rw[←fY,eB];decide
  have de:=cl (show 0≤(aD (2^3) - aD 5)*aK (1 - (j:Int))by grind) (show 0≤aD (2^12)by grind)
  have c7:aK (16 - j)≤1:=by rw[←P7];exact ve (by omega)
  have s1:aD 5*aK (1 - (j:Int))*aD (2^12)≤aK (16 - j):=by grind
  have:=Qx (K:=bS r) (Q:=a2 r) (n:=n) (τ:=aK (-(j:Int))) (σ:=aK (1 - (j:Int))) (by omega) (by grind) t6 (by grind) t4 t7 (by grind) (a2 r - 2) 3 0 (p:=p0) (z:=bF.one) (by omega) (by omega) (by omega) bF.Le (by
   refine QP.up ?_
   have:aD (2^0)=1:=fY
   rw[this];grind)
  rw[Int.toNat_natCast,Int.toNat_natCast,Qw _ _ _ (by omega),bF.one_mul,Nat.mod_eq_of_lt cj,←vF]at this
  have ek:((a2 r:Int) - 2).toNat=a2 r - 2:=by omega
  unfold rest
  rw[ek]
  refine this.up ?_
  have hh:aD (2^(0+(a2 r - 2)))≤aD (2^12):=by rw[gH,gH];exact ve (by omega)
  have f0:0≤aD 5*aK (1 - (j:Int)):=cl (by rw[←p4,eB];decide) (by grind)
  have:=cl (show 0≤aD (2^12) - aD (2^(0+(a2 r - 2)))by grind) f0
  grind
def Ju (e:Nat) (z:bF):bF:=
 let z:=if e=1∨e=2∨e=5∨e=6 then ⟨z.dA,z.c1⟩else z
 let z:=if 2≤e∧e≤5 then ⟨-z.c1,z.dA⟩else z
 if 4≤e then ⟨z.c1,-z.dA⟩else z
theorem Qy {a:Nat} (h:a<1152921504606846976):pt a=Ju (cw a) (pt (cz a)):=by
 have he:=Bf h
 have h1:cw a % 2=0→a=cw a / 2*288230376151711744+cz a:=by intro k;unfold cz;rw[if_pos k];unfold cw at*;omega
 have h2:cw a % 2=1→a+cz a=(cw a+1) / 2*288230376151711744:=by intro k;unfold cz;rw[if_neg (by omega)];unfold cw at*;omega
 generalize cw a=e at*
 generalize cz a=r at*
 rcases (by omega:e=0∨e=1∨e=2∨e=3∨e=4∨e=5∨e=6∨e=7)with rfl|rfl|rfl|rfl|rfl|rfl|rfl|rfl
 all_goals first
  |(have k:=h1 rfl;rw[k,aa0])
  |(have k:=h2 rfl;rw[alI k])
 all_goals
  generalize pt r=z
  refine bF.ext' ?_ ?_<;>simp[Ju,bF.pow,bF.mul,bF.one,bF.I,bF.EB]<;>grind
theorem acv {a:Nat} {w:Int} {δ:R} (h:a<1152921504606846976) (ar:ku (rest (bS (cz a)) (a2 (cz a)) w) (pt (cz a)) δ):ku (eb a w) (pt a) δ:=by
 rw[Qy h]
 unfold eb Ju
 simp only
 generalize cw a=e
 generalize rest (bS (cz a)) (a2 (cz a)) w=p at*
 generalize pt (cz a)=z at*
 have key:∀(c:Prop) [Decidable c] (p dH:dI) (z g5:bF),ku p z δ→ku dH g5 δ→ku (if c then dH else p) (if c then g5 else z) δ:=by
  intro c _ p dH z g5 h1 h2
  split
  ·exact h2
  ·exact h1
 have bs:=key (e=1∨e=2∨e=5∨e=6) p ⟨p.s,p.c⟩ z ⟨z.dA,z.c1⟩ ar ⟨ar.2,ar.1⟩
 generalize (if e=1∨e=2∨e=5∨e=6 then (⟨p.s,p.c⟩:dI)else p)=p1 at*
 generalize (if e=1∨e=2∨e=5∨e=6 then (⟨z.dA,z.c1⟩:bF)else z)=dg at*
 have bq:=key (2≤e∧e≤5) p1 ⟨dd p1.c,p1.s⟩ dg ⟨-dg.c1,dg.dA⟩ bs ⟨Lf bs.1,bs.2⟩
 generalize (if 2≤e∧e≤5 then (⟨dd p1.c,p1.s⟩:dI)else p1)=cU at*
 generalize (if 2≤e∧e≤5 then (⟨-dg.c1,dg.dA⟩:bF)else dg)=dP at*
 exact key (4≤e) cU ⟨cU.c,dd cU.s⟩ dP ⟨dP.c1,-dP.dA⟩ bq ⟨bq.1,Lf bq.2⟩
theorem acw {a n j:Nat} (h:a<1152921504606846976) (a7:a2 (cz a)≤14) (aH:2*j+6≤n) (z1:16≤j):ku (eb a n) (pt a) (aK (16 - j)):=
 acv h (alc (Dh a) a7 aH z1)
end RV.Dr
namespace RV.Dr
open RV RR
set_option linter.unusedSimpArgs false
set_option linter.unusedVariables false
set_option maxRecDepth 100000
def Ad (v:Nat):Nat→Bool
 |0=>true
 |j+1=>Nat.ble 2 ((v / 2^(256 - 24*(j+1))+1) % 16777216) && Ad v j
def xf:List (Nat×Nat):=[
 (81877371507464127617551201542979628307507432471243237061821853600756754782485,81877371507464127617551201542979628307507432471243237061821853600756754782485),
 (106977941273076885255401814408341967549158484705964476431625176369167556163398,44311714150060931561488076157189893527193699149339307236362825417981466611568),
 (113567176711097047325463768913859956330885371583230639589751637675741685910299,22589915976228276810931329007774019079103816782282772219569592289057374999743),
 (115234518678441148755077188541558550353083861527852106080951951399069052281697,11349609459827025386315054981497478700107540844022747970091458731335977254559),
 (115652612594735261630533212038080604071180833771132144218250487545714189690147,5681648524387955636478685845531689532533956344726492829850228781285907570647),
 (115757214824910463240241786217277123290913947822486683059320394325390740621288,2841680123118429179042206312730952958971823825043980564818000535596730057149),
 (115783370305955014316777807934221279643280619838252308828686504167567378588295,1420947056259223887622005787266528674645586023666841756453661507923851838400),
 (115789909483959279675297897520221195330071915391298345269851605683448755368793,710486902844773586087001815982426020273464248308757282291554189327087545694),
 (115791544297694671672312813634469512954494945145319019660330917306301005945095,355245123273584054955660074806873547895585988765475658249616332717393059455),
 (115791953002330670965576878911025023205077572892285116562727235753797976646712,177622770618560500788250455519631949866975377576964607859767826767188282242),
 (115792055178564805337587911453719191806704615442459411307051627393931309538222,88811411432012835054704271980476344794564024588133381836921961168012725810),
 (115792080722628034841334411734115293143326779353352816428150354406618894983668,44405708981348350781778236820611868195108407300371530322216200125730338270)]
def Ae:List (Nat×Nat)→Nat→Nat→Bool
 |[],_,_=>true
 |(C,S)::l,X,Y=>Ae l X Y && (Nat.ble (Y*S) (X*C) && (Ad ((X*C - Y*S) / 2^256) 8 && (Ad ((X*S+Y*C) / 2^256) 8 && Ae l ((X*C - Y*S) / 2^256) ((X*S+Y*C) / 2^256))))
theorem ald:Ae xf (2^256) 0=true:=by decide+kernel
def agD (a b:Nat×Nat):Bool:=Nat.ble (b.1*b.1) ((2^256+a.1)*2^255) && (Nat.ble ((2^256+a.1+2)*2^255) ((b.1+2)*(b.1+2)) && (Nat.ble (b.2*b.2+2^255*(a.1+2)) (2^256*2^255) && Nat.ble (2^256*2^255) ((b.2+4096)*(b.2+4096)+2^255*a.1)))
def gR (i:Nat):Nat×Nat:=xf.getD i (0,0)
theorem ajM:Nat.ble ((gR 0).1*(gR 0).1) (2^256*2^255)=true∧Nat.ble (2^256*2^255) (((gR 0).1+2)*((gR 0).1+2))=true∧(gR 0).2=(gR 0).1:=by decide+kernel
theorem akx:∀i,i<11→agD (gR i) (gR (i+1))=true:=by decide+kernel
theorem ale:xf.length=12:=by decide+kernel
def oS (x:R) (V e:Nat):Prop:=aD V≤x*aK 256+aD e∧x*aK 256≤aD V+aD e
def yr (x:R):Prop:=∀n:Nat,n≤160→∀z:Int,aD z+aK (-49)≤x*aK n∨x*aK n+aK (-49)≤aD z
theorem acx {v:Nat} :∀{k j:Nat},Ad v k=true→j<k→2≤(v / 2^(256 - 24*(j+1))+1) % 16777216
 |k+1,j,h,aH=>by
  simp only[Ad,Bool.and_eq_true]at h
  by_cases e:j=k
  ·subst e;exact Nat.le_of_ble_eq_true h.1
  ·exact acx h.2 (by omega)
theorem acy {x:R} {V:Nat} (h:oS x V 67108864) (k:Ad V 8=true):yr x:=by
 intro n aQ z
 obtain⟨j,aH,EW,Ix⟩:∃j,j<8∧n≤24*j∧24*j<n+24:=⟨(n+23) / 24,by omega,by omega,by omega⟩
 have aw:=acx k aH
 obtain⟨s,aG⟩:∃s,s=256 - 24*(j+1):=⟨_,rfl⟩
 rw[←aG]at aw
 obtain⟨b,V0⟩:∃b,b=V / 2^s:=⟨_,rfl⟩
 rw[←V0]at aw
 have v1:b*2^s≤V:=by rw[V0];exact Nat.div_mul_le_self V _
 have v2:V<(b+1)*2^s:=by
  rw[V0,Nat.add_mul,Nat.one_mul]
  have:=Nat.div_add_mod V (2^s)
  have m:=Nat.mod_lt V (Nat.two_pow_pos s)
  rw[Nat.mul_comm]at this
  omega
 have b8:aD b*aK s≤aD V:=by
  rw[←gH,←jQ,eB];exact_mod_cast v1
 have cL:aD V≤(aD b+1)*aK s:=by
  rw[←gH,←fY,←gW,←jQ,eB]
  have:V≤(b+1)*2^s:=Nat.le_of_lt v2
  exact_mod_cast this
 obtain⟨h1,h2⟩:=h
 have es:aK 256=aK (24*j+24)*aK s:=by rw[←k7];congr 1;omega
 rw[es]at h1 h2
 have ps:=eV (-(s:Int))
 have JG:=p7 s
 have ati:aD (67108864:Nat)*aK (-(s:Int))≤aK (-2):=by
  have:((67108864:Nat):Int)=2^26:=by decide
  rw[this,gH,←k7];exact ve (by omega)
 have bs:x*aK (24*j+24)≤aD b+1+aK (-2):=by
  have:=xR (a:=x*aK (24*j+24)) (t:=aK s) (s:=aK (-(s:Int))) (B:=(aD b+1)*aK s+aD (67108864:Nat)) (by grind) JG ps
  have e:((aD b+1)*aK s+aD (67108864:Nat))*aK (-(s:Int))=(aD b+1)*(aK s*aK (-(s:Int)))+aD (67108864:Nat)*aK (-(s:Int)):=by grind
  rw[e,JG]at this
  grind
 have bq:aD b≤x*aK (24*j+24)+aK (-2):=by
  have:=xR (a:=aD b - x*aK (24*j+24)) (t:=aK s) (s:=aK (-(s:Int))) (B:=aD (67108864:Nat)) (by grind) JG ps
  grind
 obtain⟨d,aL⟩:∃d:Nat,d=24*j+24 - n:=⟨_,rfl⟩
 have Od:aK (24*j+24)=aK n*aK d:=by rw[←k7];congr 1;omega
 have Oe:=eV d
 have oN:aK (-49)*aK d≤aK (-2):=by rw[←k7];exact ve (by omega)
 rcases Std.le_total (a:=aD z+aK (-49)) (b:=x*aK n)with c|c
 ·exact .inl c
 rcases Std.le_total (a:=x*aK n+aK (-49)) (b:=aD z)with c'|c'
 ·exact .inr c'
 exfalso
 have hh:=cl (show 0≤aD z+aK (-49) - x*aK n by grind) (show 0≤aK d by grind)
 have iX:=cl (show 0≤x*aK n+aK (-49) - aD z by grind) (show 0≤aK d by grind)
 have xr:aD z*aK d=aD (z*2^d):=by rw[jQ,gH]
 have bE:x*aK (24*j+24)≤aD (z*2^d)+aK (-2):=by rw[Od,←xr];grind
 have bM:aD (z*2^d)≤x*aK (24*j+24)+aK (-2):=by rw[Od,←xr];grind
 have bc:aK (-2)+aK (-2)=aK (-1):=(ph (-2)).symm
 have a4:aK (-1)+aK (-1)=1:=(ph (-1)).symm
 have p1:=eV (-1)
 have c7:aD b<aD (z*2^d)+1:=by grind
 have g3:aD (z*2^d)<aD b+1+1:=by grind
 rw[←fY,←gW,qV]at c7
 rw[←fY,←gW,←gW,qV]at g3
 have atj:(16777216:Int)∣z*2^d:=by
  refine Int.dvd_trans ?_ (Int.dvd_mul_left z (2^d))
  exact AU (a:=24) (by omega)
 omega
end RV.Dr
namespace RV.Dr
open RV RR
set_option linter.unusedSimpArgs false
set_option linter.unusedVariables false
set_option maxRecDepth 100000
theorem xU {a b:Nat} :aD (a:Int)≤aD (b:Int)↔a≤b:=by rw[eB];omega
theorem r9 (a b:Nat):aD ((a+b:Nat):Int)=aD a+aD b:=by rw[Int.natCast_add,gW]
theorem qO (a b:Nat):aD ((a*b:Nat):Int)=aD a*aD b:=by rw[Int.natCast_mul,jQ]
theorem uS (n:Nat):aD ((2^n:Nat):Int)=aK n:=by rw[Int.natCast_pow];exact gH n
theorem Qb:aD ((1:Nat):Int)=1:=rfl
theorem alf {a b:Nat} (h:b≤a):aD ((a - b:Nat):Int)=aD a - aD b:=by rw[Int.natCast_sub h,Lw]
theorem Qc (n:Nat):0≤aK n:=by have:=eV n;grind
theorem aeo:aK 255=hf*aK 256:=by
 have b:aK 256=aK 255+aK 255:=ph 255
 have c:=qz
 have:hf*(aK 255+aK 255)=(hf+hf)*aK 255:=by grind
 rw[b,this,c];grind
theorem anu:aK 256*aK 255=hf*(aK 256*aK 256):=by rw[aeo];grind
theorem NT:∀i:Nat,i≤11→(aD (gR i).1≤au i*aK 256∧au i*aK 256≤aD (gR i).1+aD 2)∧(aD (gR i).2≤RR.aG i*aK 256∧RR.aG i*aK 256≤aD (gR i).2+aD 4096)
 |0,_=>by
  obtain⟨f1,f2,f3⟩:=ajM
  have f1:=Nat.le_of_ble_eq_true f1
  have f2:=Nat.le_of_ble_eq_true f2
  rw[f3]
  generalize (gR 0).1=C at*
  rw[←xU,qO,qO,uS,uS]at f1
  rw[←xU,qO,qO,uS,uS,r9]at f2
  have f1:aD C*aD C≤aK 256*aK 255:=f1
  have f2:aK 256*aK 255≤(aD C+aD 2)*(aD C+aD 2):=f2
  have r:=qN (x:=hf) (by have:=s6;grind)
  have e:au 0*au 0=hf:=r.2
  have h0:0≤au 0:=r.1
  have T:=Qc 256
  have bc:(au 0*aK 256)*(au 0*aK 256)=aK 256*aK 255:=by rw[anu,←e];grind
  have atk:0≤aD C:=by rw[←p4,eB];omega
  have uD:=cl h0 T
  have bE:aD C≤au 0*aK 256:=RR.gX uD (by rw[bc];exact f1)
  have bM:au 0*aK 256≤aD C+aD 2:=RR.gX (by have:0≤aD 2:=(by rw[←p4,eB];decide);grind) (by rw[bc];exact f2)
  have l:aD 2≤aD 4096:=eB.2 (by decide)
  have aqc:RR.aG 0=au 0:=rfl
  rw[aqc]
  exact⟨⟨bE,bM⟩,bE,by grind⟩
 |i+1,hi=>by
  obtain⟨⟨b1,ep⟩,-⟩:=NT i (by omega)
  have st:=akx i (by omega)
  unfold agD at st
  simp only[Bool.and_eq_true]at st
  obtain⟨f1,f2,f3,f4⟩:=st
  have f1:=Nat.le_of_ble_eq_true f1
  have f2:=Nat.le_of_ble_eq_true f2
  have f3:=Nat.le_of_ble_eq_true f3
  have f4:=Nat.le_of_ble_eq_true f4
  generalize (gR i).1=C at*
  generalize (gR (i+1)).1=arI at*
  generalize (gR (i+1)).2=arJ at*
  rw[←xU]at f1 f2 f3 f4
  simp only[qO,r9,uS]at f1 f2 f3 f4
  have pT:((2:Nat):Int)=2:=rfl
  have yE:((4096:Nat):Int)=4096:=rfl
  have WR:((256:Nat):Int)=256:=rfl
  have N5:((255:Nat):Int)=255:=rfl
  rw[N5,WR]at f1 f2
  rw[N5,WR]at f3 f4
  rw[pT]at f2 f3
  rw[yE]at f4
  have r:=LH i
  have z:=s6
  have rc:=qN (x:=hf*(1+au i)) (cl (by grind) (by grind))
  have rs:=qN (x:=hf*(1 - au i)) (cl (by grind) (by grind))
  have ahA:au (i+1)*au (i+1)=hf*(1+au i):=rc.2
  have es:RR.aG (i+1)*RR.aG (i+1)=hf*(1 - au i):=rs.2
  have dL:0≤au (i+1):=rc.1
  have IY:0≤RR.aG (i+1):=rs.1
  have T:=Qc 256
  rw[WR]at T
  rw[aeo]at f1 f2 f3 f4
  have agE:(au (i+1)*aK 256)*(au (i+1)*aK 256)=hf*aK 256*(aK 256+au i*aK 256):=by
   have:(au (i+1)*aK 256)*(au (i+1)*aK 256)=(au (i+1)*au (i+1))*(aK 256*aK 256):=by grind
   rw[this,ahA];grind
  have agF:(RR.aG (i+1)*aK 256)*(RR.aG (i+1)*aK 256)=hf*aK 256*(aK 256 - au i*aK 256):=by
   have:(RR.aG (i+1)*aK 256)*(RR.aG (i+1)*aK 256)=(RR.aG (i+1)*RR.aG (i+1))*(aK 256*aK 256):=by grind
   rw[this,es];grind
  have cf:0≤hf*aK 256:=cl (by grind) T
  have hh:=cl cf (show 0≤au i*aK 256 - aD C by grind)
  have iX:=cl cf (show 0≤aD C+aD 2 - au i*aK 256 by grind)
  have g:∀k:Int,0≤k→0≤aD k:=fun k af=>by rw[←p4,eB];exact af
  have cC:=g arI (by omega)
  have c9:=g arJ (by omega)
  have fM:=g 2 (by omega)
  have rZ:=g 4096 (by omega)
  refine⟨⟨RR.gX (cl dL T) ?_,RR.gX (by grind) ?_⟩,RR.gX (cl IY T) ?_,RR.gX (by grind) ?_⟩
  ·rw[agE];grind
  ·rw[agE];grind
  ·rw[agF];grind
  ·rw[agF];grind
theorem Lj {x c:R} {X C e f:Nat} (aj: -1≤x∧x≤1) (au: -1≤c∧c≤1) (h:oS x X e) (k:oS c C f):
 aD X*aD C≤x*c*(aK 256*aK 256)+(aD e*aK 256+aK 256*aD f+aD e*aD f)∧x*c*(aK 256*aK 256)≤aD X*aD C+(aD e*aK 256+aK 256*aD f+aD e*aD f):=by
 obtain⟨h1,h2⟩:=h
 obtain⟨bE,bM⟩:=k
 have T:=Qc 256
 have T:0≤aK 256:=T
 generalize aK 256=t at*
 have cm:0≤aD e:=by rw[←p4,eB];omega
 have f0:0≤aD f:=by rw[←p4,eB];omega
 have cy:=tp (a:=x) (b:=t) (δ:=1) (ε:=t) (by grind) (by grind) (by grind) (by grind)
 have aR:=tp (a:=c) (b:=t) (δ:=1) (ε:=t) (by grind) (by grind) (by grind) (by grind)
 have p1:=tp (a:=aD X - x*t) (b:=aD C - c*t) (δ:=aD e) (ε:=aD f) (by grind) (by grind) (by grind) (by grind)
 have cU:=tp (a:=aD X - x*t) (b:=c*t) (δ:=aD e) (ε:=t) (by grind) (by grind) (by grind) (by grind)
 have gT:=tp (a:=x*t) (b:=aD C - c*t) (δ:=t) (ε:=aD f) (by grind) (by grind) (by grind) (by grind)
 have e:aD X*aD C=x*c*(t*t)+(aD X - x*t)*(aD C - c*t)+(aD X - x*t)*(c*t)+(x*t)*(aD C - c*t):=by grind
 rw[e]
 constructor<;>grind
theorem acz {x:R} {N e:Nat} {E:R} (h1:aD N≤x*(aK 256*aK 256)+E) (h2:x*(aK 256*aK 256)≤aD N+E) (eN:E+aK 256≤aD e*aK 256):oS x (N / 2^256) e:=by
 have a:=Nat.div_add_mod N (2^256)
 have b:=Nat.mod_lt N (Nat.two_pow_pos 256)
 obtain⟨q,a7⟩:∃q,q=N / 2^256:=⟨_,rfl⟩
 rw[←a7]at a⊢
 have bE:q*2^256≤N:=by rw[Nat.mul_comm];omega
 have bM:N≤q*2^256+2^256:=by rw[Nat.mul_comm];omega
 rw[←xU,qO,uS]at bE
 rw[←xU,r9,qO,uS]at bM
 have bE:aD q*aK 256≤aD N:=bE
 have bM:aD N≤aD q*aK 256+aK 256:=bM
 have T:0<aK 256:=eV 256
 have WS:=p7 256
 have ahD:=eV (-256)
 unfold oS
 generalize aK 256=t at*
 generalize aK (-256)=s at*
 have z:∀{a b:R},a*t≤b*t→a≤b:=fun {a b} h=>by
  have:=xR h WS ahD
  rw[show b*t*s=b*(t*s)by grind,WS]at this;grind
 clear a b a7 WS ahD
 exact⟨z (by grind),z (by grind)⟩
theorem adh {x:R} {V e e':Nat} (h:oS x V e) (l:e≤e'):oS x V e':=by
 obtain⟨h1,h2⟩:=h
 have:=xU.2 l
 exact⟨by grind,by grind⟩
theorem alP {x y:R} {e f:Nat} (he:e≤67108864) (hf:f≤4096) (e':Nat) (eN:e'=e+e+8200):(aD e*aK 256+aK 256*aD f+aD e*aD f)+(aD e*aK 256+aK 256*aD f+aD e*aD f)+aK 256≤aD e'*aK 256:=by
 have f1:aD f≤aD (4096:Nat):=xU.2 hf
 have a4:aD e≤aD (67108864:Nat):=xU.2 he
 have cm:0≤aD e:=by rw[←p4,eB];omega
 have f0:0≤aD f:=by rw[←p4,eB];omega
 have T:0<aK 256:=eV 256
 have p1:=cl cm (show 0≤aD (4096:Nat) - aD f by grind)
 have cU:=cl (show 0≤aD (67108864:Nat) - aD e by grind) (show 0≤aD (4096:Nat)by grind)
 have gT:=cl (show 0≤aD (4096:Nat) - aD f by grind) (show 0≤aK 256 by grind)
 have c:aD (67108864:Nat)*aD (4096:Nat)≤aK 256:=by
  rw[←qO,←show aD ((2^256:Nat):Int)=aK 256 from uS 256,xU];decide
 rw[eN]
 simp only[r9]
 have aqd:aD (8200:Nat)=aD (4096:Nat)+aD (4096:Nat)+aD (8:Nat):=by rw[←r9,←r9]
 have pV:aD (8:Nat)=1+1+(1+1)+(1+1+(1+1)):=by
  have h2:aD (2:Nat)=1+1:=by rw[←Qb,←r9]
  have aE:aD (4:Nat)=1+1+(1+1):=by rw[←h2,←r9]
  rw[←aE,←r9]
 rw[aqd,pV]
 grind
theorem Z0 {q e e' X Y:Nat} {z:bF} (a7:3≤q) (ud:q≤14) (br:z.ju=1) (ah:Ae (xf.drop (q - 3)) X Y=true) (aj:oS z.c1 X e) (hy:oS z.dA Y e) (he:e≤67108864) (eN:e'=e+e+8200):
 Ae (xf.drop (q+1 - 3)) X Y=true∧Ad ((X*(gR (q - 3)).1 - Y*(gR (q - 3)).2) / 2^256) 8=true∧Ad ((X*(gR (q - 3)).2+Y*(gR (q - 3)).1) / 2^256) 8=true∧
 oS (z.mul (un q)).c1 ((X*(gR (q - 3)).1 - Y*(gR (q - 3)).2) / 2^256) e'∧oS (z.mul (un q)).dA ((X*(gR (q - 3)).2+Y*(gR (q - 3)).1) / 2^256) e'∧
 Ae (xf.drop (q+1 - 3)) ((X*(gR (q - 3)).1 - Y*(gR (q - 3)).2) / 2^256) ((X*(gR (q - 3)).2+Y*(gR (q - 3)).1) / 2^256)=true:=by
 have aJ:q - 3<xf.length:=by rw[ale];omega
 have aL:xf.drop (q - 3)=gR (q - 3)::xf.drop (q+1 - 3):=by
  rw[List.drop_eq_getElem_cons aJ,show q+1 - 3=q - 3+1 by omega]
  unfold gR
  rw[List.getD_eq_getElem?_getD,List.getElem?_eq_getElem aJ];rfl
 have a9:=NT (q - 3) (by omega)
 have JS:un q=⟨au (q - 3),RR.aG (q - 3)⟩:=by
  obtain⟨j,rfl⟩:∃j,q=j+3:=⟨q - 3,by omega⟩
  rfl
 have Jv:=GU (Hk q)
 have NU:=GU br
 rw[aL]at ah
 rw[JS]at Jv⊢
 generalize gR (q - 3)=JQ at*
 obtain⟨C,S⟩:=JQ
 simp only[Ae,Bool.and_eq_true]at ah
 obtain⟨t1,t2,t3,t4,t5⟩:=ah
 have t2:=Nat.le_of_ble_eq_true t2
 generalize au (q - 3)=c at*
 generalize RR.aG (q - 3)=s at*
 simp only at*
 obtain⟨⟨bR,cN⟩,s1,s2⟩:=a9
 have EX:aD 2≤aD 4096:=eB.2 (by decide)
 have ac:oS c C 4096:=⟨by have:0≤aD ((4096:Nat):Int):=(by rw[←p4,eB];decide);grind,by show _≤_+aD 4096;grind⟩
 have ahE:oS s S 4096:=⟨by have:0≤aD ((4096:Nat):Int):=(by rw[←p4,eB];decide);grind,by show _≤_+aD 4096;grind⟩
 have hh:=Lj NU.1 Jv.1 aj ac
 have iX:=Lj NU.2 Jv.2 hy ahE
 have we:=Lj NU.1 Jv.2 aj ahE
 have xx:=Lj NU.2 Jv.1 hy ac
 have cw:=alP (x:=c) (y:=s) he (Nat.le_refl 4096) e' eN
 generalize aD e*aK 256+aK 256*aD (4096:Nat)+aD e*aD (4096:Nat)=E at*
 refine⟨t1,t3,t4,?_,?_,t5⟩
 ·refine acz (E:=E+E) ?_ ?_ cw<;>rw[alf t2,qO,qO]<;>simp only[bF.mul]<;>grind
 ·refine acz (E:=E+E) ?_ ?_ cw<;>rw[r9,qO,qO]<;>simp only[bF.mul]<;>grind
def BG (z:bF):Prop:=yr z.c1∧yr z.dA
theorem alg {K Q:Nat} (cj:K % 2=1) (cK:Q≤14):∀(k q m e:Nat) (X Y:Nat) (z:bF),3≤q→q+(k+1)=Q+1→m+k≤11→e≤(2^m - 1)*8200→Ae (xf.drop (q - 3)) X Y=true→oS z.c1 X e→oS z.dA Y e→z.ju=1→BG (Ac K Q (k+1) q z):=by
 intro k
 induction k with
 |zero=>
  intro q m e X Y z a7 aqe hm he ah aj hy br
  obtain⟨h1,h2,aq,aE,aF,-⟩:=Z0 a7 (by omega) br ah aj hy (e':=e+e+8200) (by have:=Qa (show m≤11 by omega);omega) rfl
  have aw:K / 2^(Q - q) % 2=1:=by rw[show Q - q=0 by omega,Nat.pow_zero,Nat.div_one];exact cj
  unfold Ac
  rw[if_pos aw]
  show BG (z.mul (un q))
  have vE:=Qa (show m≤11 by omega)
  have l:e+e+8200≤67108864:=by omega
  exact⟨acy (adh aE l) h2,acy (adh aF l) aq⟩
 |succ k cM=>
  intro q m e X Y z a7 aqe hm he ah aj hy br
  obtain⟨h1,h2,aq,aE,aF,aN⟩:=Z0 a7 (by omega) br ah aj hy (e':=e+e+8200) (by have:=Qa (show m≤11 by omega);omega) rfl
  unfold Ac
  by_cases aw:K / 2^(Q - q) % 2=1
  ·rw[if_pos aw]
   refine cM (q+1) (m+1) (e+e+8200) _ _ _ (by omega) (by omega) (by omega) ?_ aN aE aF (by rw[bF.P4,br,Hk];grind)
   rw[Nat.pow_succ]
   have:=Nat.two_pow_pos m
   omega
  ·rw[if_neg aw]
   refine cM (q+1) (m+1) e X Y z (by omega) (by omega) (by omega) ?_ h1 aj hy br
   rw[Nat.pow_succ]
   have:=Nat.two_pow_pos m
   omega
theorem aky {r:Nat} (ar:r≤144115188075855872) (h0:r≠0) (a7:a2 r≤14):BG (pt r):=by
 have aJ:r<1152921504606846976:=by omega
 have bh:=Be aJ
 have e9:3≤a2 r:=by
  unfold a2
  rw[if_neg h0]
  have:=KG h0
  have:2^b2 r≤2^57:=Nat.le_trans this ar
  have:=(Nat.pow_le_pow_iff_right (a:=2) (by decide)).1 this
  omega
 have cj:bS r<2^(a2 r - 2):=by
  refine Nat.lt_of_mul_lt_mul_right (a:=2^(60 - a2 r)) ?_
  rw[bh,←Nat.pow_add,show a2 r - 2+(60 - a2 r)=58 by omega]
  exact Nat.lt_of_le_of_lt ar (by decide)
 have vF:pt r=(un (a2 r)).pow (bS r):=by
  rw[←wN (by omega) (bS r),bh]
 have odd:bS r % 2=1:=(jB h0).2
 have one:aD ((2^256:Nat):Int)=aK 256:=uS 256
 have h:=alg (K:=bS r) (Q:=a2 r) odd a7 (a2 r - 3) 3 0 0 (2^256) 0 bF.one (by omega) (by omega) (by omega) (by omega) (by rw[Nat.sub_self,List.drop_zero];exact ald)
  (by
   unfold oS bF.one
   have:aD ((0:Nat):Int)=0:=rfl
   rw[one,this];grind)
  (by
   unfold oS bF.one
   have:aD ((0:Nat):Int)=0:=rfl
   rw[this];grind) bF.Le
 rw[show a2 r - 3+1=a2 r - 2 by omega,Qw _ _ _ (by omega),bF.one_mul,Nat.mod_eq_of_lt cj,←vF]at h
 exact h
end RV.Dr
namespace RV.Dr
open RV RR
set_option linter.unusedSimpArgs false
set_option linter.unusedVariables false
set_option maxRecDepth 100000
theorem Z1 {z:Int} {x:R} {E:Int} (h:x=aD z*aK (-E)):x*aK E=aD z:=by
 have:=p7 E
 rw[h,show aD z*aK (-E)*aK E=aD z*(aK E*aK (-E))by grind,this];grind
theorem OJ {x:a6} (ok:x.ok) (n:Nat):(g7 x n).ok∧fN (-n) (g7 x n)∧∃z:Int,bo (g7 x n)=aD z*aK (-n)∧aD z≤bo x*aK n∧bo x*aK n<aD z+1:=by
 unfold g7
 by_cases h:0≤x.e+n
 ·rw[if_pos h]
  have l:fN (-n) x:=fun _=>by omega
  refine⟨ok,l,x.V (-n),pC l,?_⟩
  have e:=Z1 (pC l)
  rw[e]
  have:=CV
  grind
 ·rw[if_neg h]
  refine⟨qS ..,p8 (Int.le_refl _),?_⟩
  obtain⟨k,af⟩:∃k,k=(-x.e - n).toNat:=⟨_,rfl⟩
  rw[←af]
  have bE:1≤k:=by omega
  have aC:bo x*aK n=aD (dU x.neg x.m)*aK (-(k:Int)):=by
   have l:fN x.e x:=fun _=>Int.le_refl _
   rw[pC l]
   have:x.V x.e=dU x.neg x.m:=by unfold a6.V;rw[Int.sub_self];simp
   rw[this,show aD (dU x.neg x.m)*aK x.e*aK n=aD (dU x.neg x.m)*(aK x.e*aK n)by grind,←k7]
   congr 2;omega
  obtain⟨z,br⟩:∃z:Int,z=dU x.neg (x.m / 2^k+(if x.neg=true then 1 else 0)):=⟨_,rfl⟩
  have a4:bo (mk x.neg (x.m / 2^k+(if x.neg=true then 1 else 0)) (-n))=aD z*aK (-n):=by
   have:=wS (E:= -n) x.neg (x.m / 2^k+(if x.neg=true then 1 else 0)) (Int.le_refl (-(n:Int)))
   rw[pC (E:= -n) (p8 (Int.le_refl _)),this,br,Int.sub_self];simp
  refine⟨z,a4,?_⟩
  rw[aC]
  have atl:=eV (k:Int)
  have agG:=eV (-(k:Int))
  have ahF:=p7 (k:Int)
  have key:z*2^k≤dU x.neg x.m∧dU x.neg x.m<(z+1)*2^k:=by
   have aL:=Nat.div_add_mod x.m (2^k)
   have hm:=Nat.mod_lt x.m (Nat.two_pow_pos k)
   have c:((2^k:Nat):Int)=2^k:=Int.natCast_pow 2 k
   have tX:((2:Int)^k)*((x.m / 2^k:Nat):Int)+((x.m % 2^k:Nat):Int)=x.m:=by rw[←c];exact_mod_cast aL
   cases aQ:x.neg with
   |false=>
    rw[aQ]at br
    have V1:z=((x.m / 2^k:Nat):Int):=by rw[br];simp[dU]
    rw[V1]
    unfold dU
    simp only[Bool.false_eq_true,if_false]
    rw[Int.mul_comm,Int.add_mul,Int.one_mul,Int.mul_comm ((x.m / 2^k:Nat):Int)]
    omega
   |true=>
    rw[aQ]at br
    have h0:x.m≠0:=fun e=>by have:=(ok.1 e).1;rw[this]at aQ;cases aQ
    have bu:=ok.2 h0
    have ar:x.m % 2^k≠0:=fun e=>by
     have:=Nat.mod_mod_of_dvd x.m (show 2∣2^k from ⟨2^(k - 1),by rw[←Nat.pow_succ'];congr 1;omega⟩)
     rw[e]at this
     omega
    have V1:z= -(((x.m / 2^k:Nat):Int)+1):=by rw[br];simp[dU]
    rw[V1]
    unfold dU
    simp only[if_true]
    have bc: -(((x.m / 2^k:Nat):Int)+1)*2^k= -(2^k*((x.m / 2^k:Nat):Int)+2^k):=by grind
    have c8:(-(((x.m / 2^k:Nat):Int)+1)+1)*2^k= -(2^k*((x.m / 2^k:Nat):Int)):=by grind
    rw[bc,c8]
    omega
  obtain⟨tg,JT⟩:=key
  rw[←eB,jQ,gH]at tg
  rw[←qV,jQ,gH,gW,fY]at JT
  constructor
  ·exact xR tg ahF agG
  ·have:=wA (show 0<(aD z+1)*aK k - aD (dU x.neg x.m)by grind) agG
   have e:((aD z+1)*aK k - aD (dU x.neg x.m))*aK (-(k:Int))=(aD z+1)*(aK k*aK (-(k:Int))) - aD (dU x.neg x.m)*aK (-(k:Int)):=by grind
   rw[e,ahF]at this
   grind
def eT (I:bP) (x:R) (n:Nat):Prop:=bP.ok I∧fN (-n) I.lo∧fN (-n) I.hi∧∃z w:Int,bo I.lo=aD z*aK (-n)∧bo I.hi=aD w*aK (-n)∧aD z≤x*aK n∧x*aK n<aD z+1∧x*aK n≤aD w∧aD w<x*aK n+1
theorem eT.uniq {I J:bP} {x:R} {n:Nat} (h:eT I x n) (k:eT J x n):I=J:=by
 obtain⟨ok,_,_,z,w,h1,h2,aq,aE,aF,aN⟩:=h
 obtain⟨agH,_,_,g5,w',bE,bM,bn,h5,oM,bf⟩:=k
 have a4:z=g5:=by
  have a:aD z<aD g5+1:=by grind
  have b:aD g5<aD z+1:=by grind
  rw[←fY,←gW,qV]at a b
  omega
 have bc:w=w':=by
  have a:aD w<aD w'+1:=by grind
  have b:aD w'<aD w+1:=by grind
  rw[←fY,←gW,qV]at a b
  omega
 have a:=Hp ok.1 agH.1 (by rw[h1,bE,a4])
 have b:=Hp ok.2 agH.2 (by rw[h2,bM,bc])
 cases I;cases J
 simp only at a b
 rw[a,b]
theorem Kv {i:bP} (ok:bP.ok i) (n:Nat):bP.ok (fg i n)∧fN (-n) (fg i n).lo∧fN (-n) (fg i n).hi∧∃z w:Int,bo (fg i n).lo=aD z*aK (-n)∧bo (fg i n).hi=aD w*aK (-n)∧
 (aD z≤bo i.lo*aK n∧bo i.lo*aK n<aD z+1)∧(bo i.hi*aK n≤aD w∧aD w<bo i.hi*aK n+1)∧(hd i n=true↔w≤z+1)∧(Ck i n=true↔i.lo=i.hi∨w≤z+1):=by
 obtain⟨b1,ep,z,oP,eM,arK⟩:=OJ ok.1 n
 obtain⟨cy,aR,w,aW,aS,bm⟩:=OJ (CT ok.2) n
 rw[uR]at aS bm
 have bc:bo (fg i n).hi=aD (-w)*aK (-n):=by
  show bo (dx _)=_
  rw[uR,aW,jD];grind
 have wd:bo (qb (fg i n))=aD (-w - z)*aK (-n):=by
  unfold qb
  rw[y7,uR,bc]
  show _+ -bo (g7 i.lo n)=_
  rw[oP,Lw];grind
 have v7:=eV (n:Int)
 have aqf:=eV (-(n:Int))
 have one:bo d1=1:=by have:=Bg;unfold ff i1 at this;grind
 have kV:bo (hP (-n))=aK (-n):=by
  rw[pC (E:= -n) (fun _=>Int.le_refl _)]
  have:(hP (-n)).V (-n)=1:=by unfold a6.V hP dU;rw[Int.sub_self];rfl
  rw[this,fY];grind
 have bR:hd i n=true↔-w≤z+1:=by
  unfold hd
  rw[decide_eq_true_iff,qc,GS,wd,one]
  have e:aD (-w - z)*aK (-n)*aK n=aD (-w - z):=Z1 rfl
  rw[e,←fY,eB];omega
 have cN:Ck i n=true↔i.lo=i.hi∨-w≤z+1:=by
  unfold Ck
  rw[Bool.or_eq_true,decide_eq_true_iff,decide_eq_true_iff,qc,wd,kV]
  have:aD (-w - z)*aK (-n)≤aK (-n)↔-w≤z+1:=by
   rw[show -w≤z+1↔-w - z≤1 by omega,←eB,fY]
   constructor
   ·intro h
    refine Std.not_lt.1 fun k=> ?_
    have:=wA (show 0<aD (-w - z) - 1 by grind) aqf
    grind
   ·intro h
    have:=cl (show 0≤1 - aD (-w - z)by grind) (show 0≤aK (-n)by grind)
    grind
  rw[this]
 exact⟨⟨b1,CT cy⟩,ep,aR,z,-w,oP,bc,⟨eM,arK⟩,⟨by rw[jD];grind,by rw[jD];grind⟩,bR,cN⟩
theorem acA {i:bP} (ok:bP.ok i) (n:Nat):Ck i n=hd i n:=by
 obtain⟨_,_,_,z,w,_,_,⟨h1,h2⟩,⟨aq,aE⟩,bR,cN⟩:=Kv ok n
 rw[Bool.eq_iff_iff,bR,cN]
 constructor
 ·rintro(e|e)
  ·rw[e]at h1 h2
   have a:aD w<aD z+1+1:=by grind
   rw[←fY,←gW,←gW,qV]at a
   omega
  ·exact e
 ·exact .inr
theorem YA {i:bP} {x δ:R} {n:Nat} (ok:bP.ok i) (aQ:n≤160) (h:ff i x δ) (g:yr x) (k:hd i n=true):eT (fg i n) x n:=by
 obtain⟨o,c7,g3,z,w,a4,bc,⟨h1,h2⟩,⟨aq,aE⟩,bR,_⟩:=Kv ok n
 have kw:=bR.1 k
 obtain⟨b1,ep,_,_⟩:=h
 have p:=eV (n:Int)
 have V2:=eV (-49)
 have hh:=cl (show 0≤x - bo i.lo by grind) (show 0≤aK n by grind)
 have iX:=cl (show 0≤bo i.hi - x by grind) (show 0≤aK n by grind)
 have asQ:aD w≤aD z+1:=by rw[←fY,←gW,eB];exact kw
 have cC:=g n aQ z
 have c9:=g n aQ w
 refine⟨o,c7,g3,z,w,a4,bc,by grind,?_,by grind,?_⟩
 ·grind
 ·grind
theorem acB {i:bP} {x δ:R} {n:Nat} (ok:bP.ok i) (aQ:n≤160) (h:ff i x δ) (g:yr x) (aL:δ*aK n≤aK (-50)):hd i n=true:=by
 obtain⟨o,c7,g3,z,w,a4,bc,⟨h1,h2⟩,⟨aq,aE⟩,bR,_⟩:=Kv ok n
 refine bR.2 (Int.not_lt.1 fun k=> ?_)
 obtain⟨b1,ep,oP,eM⟩:=h
 have p:=eV (n:Int)
 have Fo:=eV (-50)
 have asR:aK (-49)=aK (-50)+aK (-50):=by have:=ph (-50);rwa [show (-50:Int)+1= -49 by decide]at this
 have eH:aD z+1+1≤aD w:=by rw[←fY,←gW,←gW,eB];omega
 have hh:=cl (show 0≤bo i.lo+δ - x by grind) (show 0≤aK n by grind)
 have iX:=cl (show 0≤x+δ - bo i.hi by grind) (show 0≤aK n by grind)
 have cC:=g n aQ (z+1)
 rw[gW,fY]at cC
 grind
theorem Ki {i:bP} {n:Nat} {x:R} {k:Int} (ok:bP.ok i) (h:ff i x 0) (aj:x=aD k):hd i n=true∧eT (fg i n) x n:=by
 obtain⟨o,c7,g3,z,w,a4,bc,⟨h1,h2⟩,⟨aq,aE⟩,bR,_⟩:=Kv ok n
 obtain⟨b1,ep,oP,eM⟩:=h
 have cy:bo i.lo=x:=by grind
 have aR:bo i.hi=x:=by grind
 rw[cy]at h1 h2
 rw[aR]at aq aE
 have ex:x*aK n=aD (k*2^n):=by rw[aj,jQ,gH]
 have v3:=CV
 refine⟨bR.2 ?_,o,c7,g3,z,w,a4,bc,h1,h2,aq,aE⟩
 have:aD w<aD z+1+1:=by grind
 rw[←fY,←gW,←gW,qV]at this
 omega
end RV.Dr
namespace RV.Dr
open RV RR
set_option linter.unusedSimpArgs false
set_option linter.unusedVariables false
set_option maxRecDepth 100000
theorem u3 {a:Nat} (h:a<1152921504606846976):a2 a≤14↔a % 70368744177664=0:=by
 by_cases h0:a=0
 ·subst h0;exact⟨fun _=>rfl,fun _=>by rw[xS.2];omega⟩
 ·have br:=Mk h0 h
  have e:a2 a=60 - b2 a:=by unfold a2;rw[if_neg h0]
  have aG:=(jB h0).1
  constructor
  ·intro k
   have:70368744177664∣a:=by
    rw[←aG]
    refine Nat.dvd_trans ?_ (Nat.dvd_mul_left _ _)
    exact Nat.pow_dvd_pow 2 (show 46≤b2 a by omega)
   omega
  ·intro k
   have:=ZI (k:=46) h0 (by exact k)
   omega
theorem A3 {a:Nat} (h:a<1152921504606846976) (a7:a2 a≤14):a2 (cz a)≤14:=by
 rw[u3 h]at a7
 rw[u3 (by have:=Dh a;omega)]
 unfold cz cw
 split<;>omega
theorem C3 {a:Nat} (a7:a2 (cz a)≤14) {w:Int} (hw:0≤w) (gg:w≤800):(eb a w).win (-20000) 200:=by
 have ar:=Qt (K:=bS (cz a)) (Q:=a2 (cz a)) (by omega) hw gg
 unfold eb
 simp only
 generalize rest (bS (cz a)) (a2 (cz a)) w=p at*
 generalize cw a=e
 have key:∀(c:Prop) [Decidable c] (p dH:dI),p.win (-20000) 200→dH.win (-20000) 200→(if c then dH else p).win (-20000) 200:=by
  intro c _ p dH h1 h2
  split
  ·exact h2
  ·exact h1
 have bs:=key (e=1∨e=2∨e=5∨e=6) p ⟨p.s,p.c⟩ ar ⟨ar.2,ar.1⟩
 generalize (if e=1∨e=2∨e=5∨e=6 then (⟨p.s,p.c⟩:dI)else p)=p1 at*
 have bq:=key (2≤e∧e≤5) p1 ⟨dd p1.c,p1.s⟩ bs ⟨r8 bs.1,bs.2⟩
 generalize (if 2≤e∧e≤5 then (⟨dd p1.c,p1.s⟩:dI)else p1)=cU at*
 exact key (4≤e) cU ⟨cU.c,dd cU.s⟩ bq ⟨bq.1,r8 bq.2⟩
theorem yr.neg {x:R} (h:yr x):yr (-x):=by
 intro n aQ z
 have:=h n aQ (-z)
 rw[jD]at this
 grind
theorem Qz {a:Nat} (h:a<1152921504606846976) (h0:cz a≠0) (a7:a2 (cz a)≤14):BG (pt a):=by
 rw[Qy h]
 have ar:=aky (Dh a) h0 a7
 generalize cw a=e
 generalize pt (cz a)=z at*
 unfold Ju
 simp only
 have key:∀(c:Prop) [Decidable c] (z g5:bF),BG z→BG g5→BG (if c then g5 else z):=by
  intro c _ z g5 h1 h2
  split
  ·exact h2
  ·exact h1
 have bs:=key (e=1∨e=2∨e=5∨e=6) z ⟨z.dA,z.c1⟩ ar ⟨ar.2,ar.1⟩
 generalize (if e=1∨e=2∨e=5∨e=6 then (⟨z.dA,z.c1⟩:bF)else z)=dg at*
 have bq:=key (2≤e∧e≤5) dg ⟨-dg.c1,dg.dA⟩ bs ⟨bs.1.neg,bs.2⟩
 generalize (if 2≤e∧e≤5 then (⟨-dg.c1,dg.dA⟩:bF)else dg)=dP at*
 exact key (4≤e) dP ⟨dP.c1,-dP.dA⟩ bq ⟨bq.1,bq.2.neg⟩
def Jw (z:bF):Prop:=(∃k:Int,z.c1=aD k)∧∃k:Int,z.dA=aD k
theorem PF {a:Nat} (h:a<1152921504606846976) (h0:cz a=0):Jw (pt a):=by
 rw[Qy h,h0,aaZ]
 generalize cw a=e
 unfold Ju
 simp only
 have key:∀(c:Prop) [Decidable c] (z g5:bF),Jw z→Jw g5→Jw (if c then g5 else z):=by
  intro c _ z g5 h1 h2
  split
  ·exact h2
  ·exact h1
 have N3:∀{x:R},(∃k:Int,x=aD k)→∃k:Int,-x=aD k:=fun⟨k,e⟩=>⟨-k,by rw[jD,e]⟩
 have ar:Jw bF.one:=⟨⟨1,rfl⟩,0,rfl⟩
 generalize bF.one=z at*
 have bs:=key (e=1∨e=2∨e=5∨e=6) z ⟨z.dA,z.c1⟩ ar ⟨ar.2,ar.1⟩
 generalize (if e=1∨e=2∨e=5∨e=6 then (⟨z.dA,z.c1⟩:bF)else z)=dg at*
 have bq:=key (2≤e∧e≤5) dg ⟨-dg.c1,dg.dA⟩ bs ⟨N3 bs.1,bs.2⟩
 generalize (if 2≤e∧e≤5 then (⟨-dg.c1,dg.dA⟩:bF)else dg)=dP at*
 exact key (4≤e) dP ⟨dP.c1,-dP.dA⟩ bq ⟨bq.1,N3 bq.2⟩
theorem YB {a:Nat} {w:Int} (h:a<1152921504606846976) (h0:cz a=0):ku (eb a w) (pt a) 0:=by
 refine acv h ?_
 rw[h0,xS.1,xS.2]
 exact QP
theorem adi {lo hi:Int} {p:dI} (h:p.win lo hi):dI.ok p:=⟨A2 h.1,A2 h.2⟩
theorem told {a n:Nat} (h:a<1152921504606846976) (a7:a2 a≤14) (aQ:n≤160) {w:Nat} (hw:38≤w) (gg:w≤800):
 (hd (eb a w).c n=true→eT (fg (eb a w).c n) (pt a).c1 n)∧(hd (eb a w).s n=true→eT (fg (eb a w).s n) (pt a).dA n):=by
 have kO:=A3 h a7
 have ok:=adi (C3 (a:=a) kO (w:=w) (by omega) (by omega))
 by_cases h0:cz a=0
 ·have p:=YB (w:=w) h h0
  obtain⟨⟨k,e⟩,eH,e'⟩:=PF h h0
  exact⟨fun _=>(Ki ok.1 p.1 e).2,fun _=>(Ki ok.2 p.2 e').2⟩
 ·have p:=acw (n:=w) (j:=16) h kO (by omega) (by omega)
  have g:=Qz h h0 kO
  exact⟨YA ok.1 aQ p.1 g.1,YA ok.2 aQ p.2 g.2⟩
theorem ajN {a n:Nat} (h:a<1152921504606846976) (a7:a2 a≤14) (aQ:n≤160) {w:Nat} (hw:2*n+138≤w∨cz a=0) (gg:w≤800):hd (eb a w).c n=true∧hd (eb a w).s n=true:=by
 have kO:=A3 h a7
 have ok:=adi (C3 (a:=a) kO (w:=w) (by omega) (by omega))
 by_cases h0:cz a=0
 ·have p:=YB (w:=w) h h0
  obtain⟨⟨k,e⟩,eH,e'⟩:=PF h h0
  exact⟨(Ki ok.1 p.1 e).1,(Ki ok.2 p.2 e').1⟩
 ·have hw:=hw.resolve_right h0
  have p:=acw (n:=w) (j:=n+66) h kO (by omega) (by omega)
  have g:=Qz h h0 kO
  have d:aK (16 - (n+66:Nat))*aK n≤aK (-50):=by rw[←k7];exact ve (by omega)
  exact⟨acB ok.1 aQ p.1 g.1 d,acB ok.2 aQ p.2 g.2 d⟩
theorem aa3 {a:Nat} (h:a<1152921504606846976) (a7:a2 a≤2):cz a=0:=by
 by_cases h0:a=0
 ·subst h0;rfl
 ·have e:a2 a=60 - b2 a:=by unfold a2;rw[if_neg h0]
  have aG:=(jB h0).1
  have:288230376151711744∣a:=by
   rw[←aG]
   refine Nat.dvd_trans ?_ (Nat.dvd_mul_left _ _)
   exact Nat.pow_dvd_pow 2 (show 58≤b2 a by omega)
  unfold cz cw
  split<;>omega
theorem KZ {a n:Nat} (h:a<1152921504606846976) (a7:a2 a≤14) (aQ:n≤160):hd (eb a ((n:Int)+2*a2 a+40+64*4)).c n=true∧hd (eb a ((n:Int)+2*a2 a+40+64*4)).s n=true:=by
 have:=ajN (w:=n+2*a2 a+40+64*4) h a7 aQ (by
  by_cases h2:a2 a≤2
  ·exact .inr (aa3 h h2)
  ·exact .inl (by omega)) (by omega)
 rwa [show ((n+2*a2 a+40+64*4:Nat):Int)=(n:Int)+2*a2 a+40+64*4 by omega]at this
def k1 (b:Bool) (p:dI):bP:=if b=true then p.s else p.c
def iE (b:Bool) (a:Nat) (n:Int):Nat→Int→bP
 |0,w=>fg (k1 b (eb a w)) n
 |k+1,w=>if hd (k1 b (eb a w)) n=true then fg (k1 b (eb a w)) n else iE b a n k (w+64)
def dR (b:Bool) (a:Nat) (n:Int):bP:=iE b a n 4 (n+2*a2 a+40)
noncomputable def eD (b:Bool) (a:Nat):R:=if b=true then (pt a).dA else (pt a).c1
theorem Z2 {b:Bool} {a n:Nat} (h:a<1152921504606846976) (a7:a2 a≤14) (aQ:n≤160):∀(k m:Nat),m+k=4→eT (iE b a n k ((n:Int)+2*a2 a+40+64*m)) (eD b a) n
 |0,m,hm=>by
  obtain rfl:m=4:=by omega
  have aE:=KZ h a7 aQ
  have ah:=told (w:=n+2*a2 a+40+64*4) h a7 aQ (by omega) (by omega)
  rw[show ((n+2*a2 a+40+64*4:Nat):Int)=(n:Int)+2*a2 a+40+64*4 by omega]at ah
  cases b
  ·exact ah.1 aE.1
  ·exact ah.2 aE.2
 |k+1,m,hm=>by
  have ah:=told (w:=n+2*a2 a+40+64*m) h a7 aQ (by omega) (by omega)
  rw[show ((n+2*a2 a+40+64*m:Nat):Int)=(n:Int)+2*a2 a+40+64*m by omega]at ah
  unfold iE
  split
  ·rename_i au
   cases b
   ·exact ah.1 au
   ·exact ah.2 au
  ·have:=Z2 (b:=b) h a7 aQ k (m+1) (by omega)
   rwa [show (n:Int)+2*a2 a+40+64*((m+1:Nat):Int)=(n:Int)+2*a2 a+40+64*m+64 by omega]at this
theorem iK {b:Bool} {a n:Nat} (h:a<1152921504606846976) (a7:a2 a≤14) (aQ:n≤160):eT (dR b a n) (eD b a) n:=by
 have:=Z2 (b:=b) h a7 aQ 4 0 (by omega)
 rwa [show (n:Int)+2*a2 a+40+64*((0:Nat):Int)=(n:Int)+2*a2 a+40 by omega]at this
end RV.Dr
namespace RV.Dr
open Go RV
set_option linter.unusedSimpArgs false
set_option linter.unusedVariables false
set_option maxRecDepth 100000
set_option maxHeartbeats 4000000
def Cn (b:Bool):Nat:=if b=true then 83 else 79
def kP:bC where
 pre:=fun ds=>∃(K:Int) (Q n:Nat) (b:Bool),ds=[cq K Q,.int .i64 n,.fn (Cn b) [] []]∧Q≤60∧a2 (an K Q)≤14∧n≤160
 res:=fun ds=>match ds with
  |[.agg [.int _ K,.int _ Q],.int _ n,.fn f _ _]=>aA (dR (decide (f=83)) (an K Q.toNat) n)
  |_=> .nilp
def th (K Q n:Int) (b:Bool) (w:Int) (s:St):Prop:=s.ag 1= .d (.int .i64 n)∧s.ag 2= .d (.fn (Cn b) [] [])∧s.ag 3= .box 3 0∧s.az 3=some ⟨false,false,.cells [.d (.int .i64 K),.d (.int .i64 Q)]⟩∧cS 6 s∧s.ag 7= .d (.int .i64 w)
def FQ (aU:Int) (s:St):Nat:=match s.ag 7 with
 | .d (.int _ w)=>(aU+1000 - w).toNat
 |_=>0
theorem GV {Γ:Env} :∀{l:oQ} {iT agI iG agJ iH Kg':St→Prop} {σ:St},(∀s,iT s→agI s)→(∀s,iG s→agJ s)→(∀s,iH s→Kg' s)→lv Γ l iT iG iH σ→lv Γ l agI agJ Kg' σ
 | .c l,_,_,_,_,_,_,_,aQ,ar,bh,h=>j7 l (fun e s aG=>by
  cases e with
  |normal=>exact aQ s aG
  |ret=>exact ar s aG
  |exit j=>exact aG) h
 | .seq a b,_,_,_,_,_,_,_,aQ,ar,bh,h=>GV (l:=a) (fun s aG=>GV (l:=b) aQ ar bh aG) ar bh h
 | .cond c a b,_,_,_,_,_,_,σ,aQ,ar,bh,h=>by
   simp only[lv]at*
   split at h
   ·exact⟨fun e=>GV aQ ar bh (h.1 e),fun e=>GV aQ ar bh (h.2 e)⟩
   ·exact h.elim
 | .goto,_,_,_,_,_,_,_,_,_,bh,h=>bh _ h
theorem FR (Γ:Env) (zp:Γ.has 111 lj) (aep:Γ.has 113 rb) (aeq:Γ.has 112 sG) (aqg:Γ.has 79 rF) (aqh:Γ.has 83 rG) (ds:List D) (h:kP.pre ds):LV Γ Ri Rj HP IP ds fun d=>d=kP.res ds:=by
 obtain⟨K,Q,n,b,rfl,cK,a7,aQ⟩:=h
 have cu:kP.res [cq K Q,.int .i64 n,.fn (Cn b) [] []]=aA (dR b (an K Q) n):=by
  have:decide (Cn b=83)=b:=by cases b<;>decide
  simp only[kP,cq,Int.toNat_natCast,this]
 rw[cu]
 have cI:=hv K Q
 have JU:=i111 K cK
 have JV:=Eh K Q
 have kO:=A3 cI a7
 have aE:=KZ cI a7 aQ
 have As:∀w:Int,0≤w→w≤800→rb.pre [.agg [.int .i64 K,.int .i64 Q],.int .i64 w]:=fun w h0 h1=>⟨K,Q,w,rfl,cK,kO,h0,h1⟩
 have At:∀w:Int,rb.res [.agg [.int .i64 K,.int .i64 Q],.int .i64 w]=dX (eb (an K Q) w):=fun w=>by simp only[rb,Int.toNat_natCast]
 have iL:∀w:Int,0≤w→w≤800→(eb (an K Q) w).win (-20000) 200:=fun w h0 h1=>C3 kO h0 h1
 unfold dR
 generalize an K Q=a at*
 generalize bS a=k at*
 obtain⟨aU,fr⟩:∃aU:Int,aU=(n:Int)+2*a2 a+40:=⟨_,rfl⟩
 rw[←fr]at aE⊢
 obtain⟨R,en⟩:∃R,R=iE b a n 4 aU:=⟨_,rfl⟩
 rw[←en]
 have key:∀(m:Nat) (s:St),m≤4→iE b a n (4 - m) (aU+64*m)=R→th K Q n b (aU+64*m) s→lv Γ HP (fun s=>kA IP s fun d=>d=aA R) (fun s=>kA IP s fun d=>d=aA R) (fun dM=>(∃m:Nat,m≤4∧iE b a n (4 - m) (aU+64*m)=R∧th K Q n b (aU+64*m) dM)∧FQ aU dM<FQ aU s) s:=by
  intro m s hm hf ⟨h1,h2,aq,aW,⟨aN,a8⟩,aM⟩
  obtain⟨w,Au⟩:∃w,w=aU+64*(m:Int):=⟨_,rfl⟩
  have j1:0≤w∧w≤800:=by omega
  have Af:aU+64*((m+1:Nat):Int)=w+64:=by omega
  have uz:m=4→hd (k1 b (eb a w)) n=true:=fun e=>by
   rw[Au,e,show ((4:Nat):Int)=4 from rfl]
   cases b
   ·exact aE.1
   ·exact aE.2
  rw[←Au]at hf aM
  have Jy:FQ aU s=(aU+1000 - w).toNat:=by unfold FQ;rw[aM]
  have wj:=As w j1.1 j1.2
  have ro:=At w
  have hw:=iL w j1.1 j1.2
  clear As At iL aE en
  have Ag:iE b a n (4 - m) w=if hd (k1 b (eb a w)) n=true then fg (k1 b (eb a w)) n else if m=4 then fg (k1 b (eb a w)) n else iE b a n (4 - (m+1)) (w+64):=by
   by_cases cW:m=4
   ·subst cW
    rw[if_pos rfl]
    show fg _ _=_
    split<;>rfl
   ·rw[show 4 - m=4 - (m+1)+1 by omega,if_neg cW];rfl
  rw[Ag]at hf
  clear Ag
  generalize eb a w=P at*
  obtain⟨x,aj⟩:∃x,x=k1 b P:=⟨_,rfl⟩
  have xg:x.win (-20000) 200:=by
   rw[aj];cases b
   ·exact hw.1
   ·exact hw.2
  rw[←aj]at uz
  obtain⟨y,hy⟩:∃y,y=fg x n:=⟨_,rfl⟩
  obtain⟨ok,cA⟩:∃ok,ok=hd x n:=⟨_,rfl⟩
  have kV:sG.pre [aA x,.int .i64 n]:=⟨x,n,rfl,win.up xg.1 (by omega) (by omega),win.up xg.2 (by omega) (by omega),by omega,by omega⟩
  have c1:sG.res [aA x,.int .i64 n]= .fh [aA y,.bool ok]:=by simp only[sG,aA,aZ,dq,hy,cA]
  have hN:rF.pre [dX P]:=⟨P,rfl⟩
  have rc:rF.res [dX P]=aA P.c:=by simp only[rF,Dj]
  have ps:rG.pre [dX P]:=⟨P,rfl⟩
  have rs:rG.res [dX P]=aA P.s:=by simp only[rG,Dj]
  have EO:(if ok=true then y else if m=4 then y else iE b a n (4 - (m+1)) (w+64))=R:=by
   rw[←hf,hy,cA,aj]
  unfold HP
  simp only[lv,G1]
  refine wE (fun s=>s.ag 9= .d (.bool ok)∧cx 8 y s∧th K Q n b w s) ?_ ?_
  ·unfold dX aZ at ro hN rc ps rs
   unfold aA aZ at kV c1 rc rs
   have cv:b=true∨b=false:=by cases b<;>simp
   rcases cv with rfl|rfl
   ·have EM:x=P.s:=aj
    subst EM
    have Cz:Cn true=83:=rfl
    rw[Cz]at h2
    simp (maxSteps:=2000000) only[↓al,ak,↓reduceIte,reduceCtorEq,Nat.reduceEqDiff,Nat.reduceLeDiff,Nat.reduceSub,Nat.reduceAdd,Int.reduceToNat,Nat.reducePow,Int.reducePow,Int.reduceLE,Int.reduceLT,IntKind.bits,h1,h2,aq,aW,aN,a8,aM,aep,wj,ro,aqh,ps,rs,aeq,kV,c1,cx,cS,th,Cz]
   ·have EM:x=P.c:=aj
    subst EM
    have Cz:Cn false=79:=rfl
    rw[Cz]at h2
    simp (maxSteps:=2000000) only[↓al,ak,↓reduceIte,reduceCtorEq,Nat.reduceEqDiff,Nat.reduceLeDiff,Nat.reduceSub,Nat.reduceAdd,Int.reduceToNat,Nat.reducePow,Int.reducePow,Int.reduceLE,Int.reduceLT,IntKind.bits,h1,h2,aq,aW,aN,a8,aM,aep,wj,ro,aqg,hN,rc,aeq,kV,c1,cx,cS,th,Cz]
  clear h1 h2 aq aW aN a8 aM kV c1 hN rc ps rs wj ro
  rintro s ⟨bd,⟨aY,bk⟩,h1,h2,aq,aW,⟨aN,a8⟩,aM⟩
  cases ok with
  |true=>
   rw[if_pos rfl]at EO
   subst EO
   unfold aA aZ
   simp (maxSteps:=2000000) only[↓al,ak,↓reduceIte,reduceCtorEq,Nat.reduceEqDiff,Nat.reduceLeDiff,Nat.reduceSub,Nat.reduceAdd,Int.reduceToNat,Nat.reducePow,Int.reducePow,Int.reduceLE,Int.reduceLT,IntKind.bits,IP,bd,aY,bk,h1,h2,aq,aW,aN,a8,aM,Bool.not_true,Bool.false_eq_true]
  |false=>
   have cW:m≠4:=fun e=>by have:=uz e;rw[←cA]at this;cases this
   rw[if_neg (by decide),if_neg cW]at EO
   refine wE (fun s=>s.ag 28= .d (.bool true)∧th K Q n b w s) ?_ ?_
   ·simp (maxSteps:=2000000) only[↓al,ak,↓reduceIte,reduceCtorEq,Nat.reduceEqDiff,Nat.reduceLeDiff,Nat.reduceSub,Nat.reduceAdd,Int.reduceToNat,Nat.reducePow,Int.reducePow,Int.reduceLE,Int.reduceLT,IntKind.bits,bd,aY,bk,h1,h2,aq,aW,aN,a8,aM,Bool.not_false,th,cS]
   clear h1 h2 aq aW aN a8 aM bd aY bk
   rintro s ⟨Js,h1,h2,aq,aW,⟨aN,a8⟩,aM⟩
   have agK:s.a3 (.t 28)= .d (.bool true):=Js
   simp only[agK]
   refine⟨fun _=> ?_,fun e=>by cases e⟩
   refine wE (fun s=>th K Q n b (w+64) s) ?_ ?_
   ·simp (maxSteps:=2000000) only[↓al,ak,↓reduceIte,reduceCtorEq,Nat.reduceEqDiff,Nat.reduceLeDiff,Nat.reduceSub,Nat.reduceAdd,Int.reduceToNat,Nat.reducePow,Int.reducePow,Int.reduceLE,Int.reduceLT,IntKind.bits,Js,h1,h2,aq,aW,aN,a8,aM,th,cS]
    ((repeat' apply And.intro)<;>first|assumption|with_reducible rfl|omega|(simp only[aO];omega)|exact⟨_,rfl⟩|exact⟨_,_,_,rfl⟩|exact⟨_,_,_,_,_,_,rfl⟩)
   clear h1 h2 aq aW aN a8 Js agK
   intro dM aG
   refine⟨⟨m+1,by omega,by rw[Af];exact EO,by rw[Af];exact aG⟩,?_⟩
   rw[Jy]
   unfold FQ
   rw[aG.2.2.2.2.2]
   simp only
   omega
 unfold LV Ri
 refine wE (fun s=>s.ag 1= .d (.int .i64 n)∧s.ag 2= .d (.fn (Cn b) [] [])∧s.ag 3= .box 3 0∧s.az 3=some ⟨false,false,.cells [.d (.int .i64 K),.d (.int .i64 Q)]⟩∧cS 6 s) ?_ ?_
 ·simp (maxSteps:=2000000) only[↓al,ak,↓reduceIte,reduceCtorEq,Nat.reduceEqDiff,Nat.reduceLeDiff,Nat.reduceSub,Nat.reduceAdd,Int.reduceToNat,Nat.reducePow,Int.reducePow,Int.reduceLE,Int.reduceLT,IntKind.bits,cq,cS]
 rintro s ⟨h1,h2,aq,aW,⟨aN,a8⟩⟩
 refine⟨fun s=>∃m:Nat,m≤4∧iE b a n (4 - m) (aU+64*m)=R∧th K Q n b (aU+64*m) s,FQ aU,?_,fun s ⟨m,h1,h2,aq⟩=>key m s h1 h2 aq⟩
 unfold Rj
 simp only[lv,G1]
 refine wE (fun s=>th K Q n b aU s) ?_ ?_
 ·simp (maxSteps:=2000000) only[↓al,ak,↓reduceIte,reduceCtorEq,Nat.reduceEqDiff,Nat.reduceLeDiff,Nat.reduceSub,Nat.reduceAdd,Int.reduceToNat,Nat.reducePow,Int.reducePow,Int.reduceLE,Int.reduceLT,IntKind.bits,h1,h2,aq,aW,aN,a8,th,cS,zp,JU,JV]
  rw[fr]
  ((repeat' apply And.intro)<;>first|assumption|with_reducible rfl|omega|(simp only[aO];omega)|exact⟨_,rfl⟩|exact⟨_,_,_,rfl⟩|exact⟨_,_,_,_,_,_,rfl⟩)
 clear h1 h2 aq aW aN a8
 intro s aG
 have:=key 0 s (by omega) (by rw[en,Int.natCast_zero,Int.mul_zero,Int.add_zero]) (by rw[Int.natCast_zero,Int.mul_zero,Int.add_zero];exact aG)
 have:=GV (Kg':=fun s=>∃m:Nat,m≤4∧iE b a n (4 - m) (aU+64*m)=R∧th K Q n b (aU+64*m) s) (fun _ h=>h) (fun _ h=>h) (fun _ h=>h.1) this
 unfold HP at this
 simp only[lv,G1]at this
 exact this
def dm:bC where
 pre:=fun ds=>∃(K:Int) (Q n:Nat),ds=[cq K Q,.int .i64 n]∧Q≤60∧a2 (an K Q)≤14∧n≤160
 res:=fun ds=>match ds with
  |[.agg [.int _ K,.int _ Q],.int _ n]=>aA (dR false (an K Q.toNat) n)
  |_=> .nilp
theorem FT (Γ:Env) (V3:Γ.has 78 kP) (ds:List D) (h:dm.pre ds):bT Γ T5 T6 ds fun d=>d=dm.res ds:=by
 obtain⟨K,Q,n,rfl,cK,a7,aQ⟩:=h
 have cu:dm.res [cq K Q,.int .i64 n]=aA (dR false (an K Q) n):=by simp only[dm,cq,Int.toNat_natCast]
 rw[cu]
 have p1:kP.pre [.agg [.int .i64 K,.int .i64 Q],.int .i64 n,.fn 79 [] []]:=⟨K,Q,n,false,rfl,cK,a7,aQ⟩
 have bX:kP.res [.agg [.int .i64 K,.int .i64 Q],.int .i64 n,.fn 79 [] []]=aA (dR false (an K Q) n):=by
  have:decide ((79:Nat)=83)=false:=by decide
  simp only[kP,Int.toNat_natCast,this]
 generalize dR false (an K Q) n=y at*
 unfold aA aZ at bX
 simp (maxSteps:=2000000) only[↓al,ak,↓reduceIte,reduceCtorEq,Nat.reduceEqDiff,Nat.reduceLeDiff,Nat.reduceSub,Nat.reduceAdd,Int.reduceToNat,Nat.reducePow,Int.reducePow,Int.reduceLE,Int.reduceLT,IntKind.bits,T5,T6,cq,aA,V3,p1,bX]
def dB:bC where
 pre:=fun ds=>∃(K:Int) (Q n:Nat),ds=[cq K Q,.int .i64 n]∧Q≤60∧a2 (an K Q)≤14∧n≤160
 res:=fun ds=>match ds with
  |[.agg [.int _ K,.int _ Q],.int _ n]=>aA (dR true (an K Q.toNat) n)
  |_=> .nilp
theorem FU (Γ:Env) (V3:Γ.has 78 kP) (ds:List D) (h:dB.pre ds):bT Γ T9 Ua ds fun d=>d=dB.res ds:=by
 obtain⟨K,Q,n,rfl,cK,a7,aQ⟩:=h
 have cu:dB.res [cq K Q,.int .i64 n]=aA (dR true (an K Q) n):=by simp only[dB,cq,Int.toNat_natCast]
 rw[cu]
 have p1:kP.pre [.agg [.int .i64 K,.int .i64 Q],.int .i64 n,.fn 83 [] []]:=⟨K,Q,n,true,rfl,cK,a7,aQ⟩
 have bX:kP.res [.agg [.int .i64 K,.int .i64 Q],.int .i64 n,.fn 83 [] []]=aA (dR true (an K Q) n):=by
  simp only[kP,Int.toNat_natCast,decide_true]
 generalize dR true (an K Q) n=y at*
 unfold aA aZ at bX
 simp (maxSteps:=2000000) only[↓al,ak,↓reduceIte,reduceCtorEq,Nat.reduceEqDiff,Nat.reduceLeDiff,Nat.reduceSub,Nat.reduceAdd,Int.reduceToNat,Nat.reducePow,Int.reducePow,Int.reduceLE,Int.reduceLT,IntKind.bits,T9,Ua,cq,aA,V3,p1,bX]
def x5:bC where
 pre:=fun ds=>∃(q:Nat) (w:Int),ds=[.int .i64 q,.int .i64 w]∧3≤q∧q≤20∧0≤w∧w≤800
 res:=fun ds=>match ds with
  |[.int _ q,.int _ w]=>yq w (q - 2).toNat
  |_=> .nilp
def hC (w:Int) (n:Nat):List (List D):=(List.range n).map fun k=>qI (aC w k)
theorem ajO (w:Int) (n:Nat):hC w n++[qI (aC w n)]=hC w (n+1):=by
 unfold hC;rw[List.range_succ,List.map_append];rfl
theorem PG (w:Int) (n:Nat):(hC w n).length=n:=by unfold hC;rw[List.length_map,List.length_range]
def j6 (q w k:Int) (R:List (List D)) (n:Nat) (o:bP) (p:dI) (s:St):Prop:=s.ag 0= .d (.int .i64 q)∧s.ag 1= .d (.int .i64 w)∧s.ag 10= .d (.int .i64 k)∧s.ag 9= .own 9 0 n∧s.az 9=some ⟨false,false,.recs 12 R⟩∧cx 5 o s∧cx 6 p.c s∧cx 8 p.s s
theorem anv (Γ:Env) (vT:Γ.has 46 fK) (yn:Γ.has 19 gN) (V4:Γ.has 16 yo) (agL:Γ.has 30 Aa) (xh:Γ.has 32 gO) (s5:Γ.has 28 gC) (ds:List D) (h:x5.pre ds):bT Γ RD RE ds fun d=>d=x5.res ds:=by
 obtain⟨q,w,rfl,B7,ase,fr,gg⟩:=h
 have cu:x5.res [.int .i64 q,.int .i64 w]= .recs 12 (hC w (q - 2)):=by
  simp only[x5,show ((q:Int) - 2).toNat=q - 2 by omega];rfl
 rw[cu]
 obtain⟨o,bu⟩:∃o,o=i1:=⟨_,rfl⟩
 have wh:o.win (-(2*w+16)) 8:=bu▸Ev (by omega) (by omega)
 have p1:fK.pre [.int .i64 1]:=⟨1,rfl,by omega,by omega⟩
 have bX:fK.res [.int .i64 1]=aI d1:=by
  have:mk (decide ((1:Int)<0)) (Int.natAbs 1) 0=d1:=vS
  simp only[fK,this]
 have cU:gN.pre [aI d1]:=⟨d1,rfl⟩
 have ch:gN.res [aI d1]=aA o:=by simp only[gN,aI,aZ,cd,bu];rfl
 have gT:gN.pre [.agg [.bool false,.ints .i64 [1],.int .i64 (-1)]]:=⟨hP (-1),by unfold aI hP aZ;rw[c7]⟩
 have gS:gN.res [.agg [.bool false,.ints .i64 [1],.int .i64 (-1)]]=aA (gV o (-1)):=by
  have e:(.agg [.bool false,.ints .i64 [1],.int .i64 (-1)]:D)=aI (hP (-1)):=by unfold aI hP aZ;rw[c7]
  rw[e]
  have bc:xT (hP (-1))=gV o (-1):=by
   have:gU d1 (-1)=hP (-1):=by show mk false 1 (0+ -1)=_;rw[Int.zero_add];exact VV (-1)
   rw[bu];unfold xT gV i1;rw[this]
  simp only[gN,aI,aZ,cd,bc]
 have key:∀(x:bP),x.win (-(2*w+16)) 9→(Aa.pre [aA x,.int .i64 (-1)]∧Aa.res [aA x,.int .i64 (-1)]=aA (gV x (-1)))∧
  (yo.pre [aA (gV x (-1)),.int .i64 w]∧∃b,yo.res [aA (gV x (-1)),.int .i64 w]= .fh [aA (gI x w),.bool b]):=fun x aj=>by
  refine⟨⟨⟨x,-1,rfl,gv aj (by omega) (by omega),by omega,by omega⟩,by simp only[Aa,aA,aZ,dq]⟩,⟨gV x (-1),w,rfl,gv (PE aj (-1)) (by omega) (by omega),fr,by omega⟩,?_⟩
  simp only[yo,aA,aZ,dq]
  unfold sm gI
  have e:(gV x (-1)).lo=gU x.lo (-1):=rfl
  rw[e]
  split
  ·exact⟨false,rfl⟩
  ·exact⟨true,rfl⟩
 rw[fU]
 unfold RD RE
 refine b3 (fun s=>s.ag 0= .d (.int .i64 q)∧s.ag 1= .d (.int .i64 w)) ?_ ?_
 ·simp (maxSteps:=2000000) only[↓al,ak,↓reduceIte,reduceCtorEq,Nat.reduceEqDiff,Nat.reduceLeDiff,Nat.reduceSub,Nat.reduceAdd,Int.reduceToNat,Nat.reducePow,Int.reducePow,Int.reduceLE,Int.reduceLT,IntKind.bits]
 rintro s ⟨h0,h1⟩
 refine b3 (fun s=>s.ag 0= .d (.int .i64 q)∧s.ag 1= .d (.int .i64 w)∧cx 5 o s) ?_ ?_
 ·unfold aI aZ at bX cU ch
  unfold aA aZ at ch
  simp (maxSteps:=2000000) only[↓al,ak,↓reduceIte,reduceCtorEq,Nat.reduceEqDiff,Nat.reduceLeDiff,Nat.reduceSub,Nat.reduceAdd,Int.reduceToNat,Nat.reducePow,Int.reducePow,Int.reduceLE,Int.reduceLT,IntKind.bits,h0,h1,vT,p1,bX,yn,cU,ch,cx]
 clear h0 h1
 rintro s ⟨h0,h1,aF,bm⟩
 refine b3 (fun s=>s.ag 0= .d (.int .i64 q)∧s.ag 1= .d (.int .i64 w)∧cx 5 o s∧cx 6 (aC w 0).c s) ?_ ?_
 ·obtain⟨-,xB,b,jN⟩:=key o (gv wh (by omega) (by omega))
  have cm:(aC w 0).c=gI o w:=by rw[bu];rfl
  rw[cm]
  generalize gI o w=z at*
  generalize gV o (-1)=y at*
  unfold aA aZ at gS xB jN
  simp (maxSteps:=2000000) only[↓al,ak,↓reduceIte,reduceCtorEq,Nat.reduceEqDiff,Nat.reduceLeDiff,Nat.reduceSub,Nat.reduceAdd,Int.reduceToNat,Nat.reducePow,Int.reducePow,Int.reduceLE,Int.reduceLT,IntKind.bits,h0,h1,aF,bm,yn,gT,gS,V4,xB,jN,cx]
 clear h0 h1 aF bm
 rintro s ⟨h0,h1,⟨aF,bm⟩,aN,a8⟩
 refine b3 (fun s=>s.ag 0= .d (.int .i64 q)∧s.ag 1= .d (.int .i64 w)∧cx 5 o s∧cx 6 (aC w 0).c s∧cx 8 (aC w 0).s s) ?_ ?_
 ·have cm:(aC w 0).s=(aC w 0).c:=rfl
  rw[cm]
  generalize (aC w 0).c=z at*
  simp (maxSteps:=2000000) only[↓al,ak,↓reduceIte,reduceCtorEq,Nat.reduceEqDiff,Nat.reduceLeDiff,Nat.reduceSub,Nat.reduceAdd,Int.reduceToNat,Nat.reducePow,Int.reducePow,Int.reduceLE,Int.reduceLT,IntKind.bits,h0,h1,aF,bm,aN,a8,cx]
 clear h0 h1 aF bm aN a8
 rintro s ⟨h0,h1,⟨aF,bm⟩,⟨aN,a8⟩,aY,bk⟩
 refine b3 (fun s=>s.ag 0= .d (.int .i64 q)∧s.ag 1= .d (.int .i64 w)∧s.ag 9= .own 9 0 0∧s.az 9=some ⟨false,false,.recs 12 []⟩∧cx 5 o s∧cx 6 (aC w 0).c s∧cx 8 (aC w 0).s s) ?_ ?_
 ·generalize (aC w 0).c=z at*
  generalize (aC w 0).s=g5 at*
  simp (maxSteps:=2000000) only[↓al,ak,↓reduceIte,reduceCtorEq,Nat.reduceEqDiff,Nat.reduceLeDiff,Nat.reduceSub,Nat.reduceAdd,Int.reduceToNat,Nat.reducePow,Int.reducePow,Int.reduceLE,Int.reduceLT,IntKind.bits,h0,h1,aF,bm,aN,a8,aY,bk,cx]
 clear h0 h1 aF bm aN a8 aY bk
 rintro s ⟨h0,h1,bd,bL,⟨aF,bm⟩,⟨aN,a8⟩,aY,bk⟩
 refine bZ (fun _=>False) ?_ (fun s h=>h.elim)
 refine b3 (j6 q w 3 [] 0 o (aC w 0)) ?_ ?_
 ·generalize aC w 0=z at*
  simp (maxSteps:=2000000) only[↓al,ak,↓reduceIte,reduceCtorEq,Nat.reduceEqDiff,Nat.reduceLeDiff,Nat.reduceSub,Nat.reduceAdd,Int.reduceToNat,Nat.reducePow,Int.reducePow,Int.reduceLE,Int.reduceLT,IntKind.bits,h0,h1,bd,bL,aF,bm,aN,a8,aY,bk,cx,j6]
 clear h0 h1 bd bL aF bm aN a8 aY bk
 intro s aG
 rw[k3]
 refine fp (fun s=>∃n:Nat,n+3≤q∧j6 q w (n+3:Nat) (hC w n) n o (aC w n) s) (fun s=>match s.ag 10 with| .d (.int _ n)=>(100 - n).toNat|_=>0) ⟨0,by omega,aG⟩ ?_
 clear aG
 rintro s ⟨n,aQ,h0,h1,bI,bd,bL,⟨aF,bm⟩,⟨aN,a8⟩,aY,bk⟩
 have jK:=bI
 refine b3 (j6 q w (n+3:Nat) (hC w n) n o (aC w n)) ?_ ?_
 ·generalize aC w n=z at*
  generalize hC w n=R at*
  have bR:((n+3:Nat):Int)≤q:=by omega
  simp (maxSteps:=2000000) only[↓al,ak,↓reduceIte,reduceCtorEq,Nat.reduceEqDiff,Nat.reduceLeDiff,Nat.reduceSub,Nat.reduceAdd,Int.reduceToNat,Nat.reducePow,Int.reducePow,Int.reduceLE,Int.reduceLT,IntKind.bits,h0,h1,bI,bd,bL,aF,bm,aN,a8,aY,bk,bR,cx,j6]
 clear h0 h1 bI bd bL aF bm aN a8 aY bk
 rintro s ⟨h0,h1,bI,bd,bL,⟨aF,bm⟩,⟨aN,a8⟩,aY,bk⟩
 refine b3 (fun s=>n+3<q∧j6 q w (n+3:Nat) (hC w (n+1)) (n+1) o (aC w (n+1)) s) ?_ ?_
 ·rw[k3]
  have agM:=ajO w n
  have aJ:=PG w n
  have gZ:=PG w (n+1)
  refine b3 (j6 q w (n+3:Nat) (hC w (n+1)) (n+1) o (aC w n)) ?_ ?_
  ·unfold qI aZ at agM
   generalize aC w n=z at*
   generalize hC w n=R at*
   generalize hC w (n+1)=CB at*
   simp (maxSteps:=2000000) only[↓al,ak,↓reduceIte,reduceCtorEq,Nat.reduceEqDiff,Nat.reduceLeDiff,Nat.reduceSub,Nat.reduceAdd,Int.reduceToNat,Nat.reducePow,Int.reducePow,Int.reduceLE,Int.reduceLT,IntKind.bits,h0,h1,bI,bd,bL,aF,bm,aN,a8,aY,bk,agM,aJ,gZ,cx,j6]
   simp only[b4];omega
  clear h0 h1 bI bd bL aF bm aN a8 aY bk
  rintro s ⟨h0,h1,bI,bd,bL,⟨aF,bm⟩,⟨aN,a8⟩,aY,bk⟩
  refine b3 (fun s=>(n+3:Nat)<q∧j6 q w (n+3:Nat) (hC w (n+1)) (n+1) o (aC w n) s) ?_ ?_
  ·have aqi:n+3=q→q - 2=n+1:=by omega
   generalize aC w n=z at*
   by_cases ce:n+3=q
   ·rw[aqi ce]
    have bR:(((n+3:Nat):Int)==(q:Int))=true:=by rw[beq_iff_eq];omega
    generalize hC w (n+1)=CB at*
    simp (maxSteps:=2000000) only[↓al,ak,↓reduceIte,reduceCtorEq,Nat.reduceEqDiff,Nat.reduceLeDiff,Nat.reduceSub,Nat.reduceAdd,Int.reduceToNat,Nat.reducePow,Int.reducePow,Int.reduceLE,Int.reduceLT,IntKind.bits,h0,h1,bI,bd,bL,aF,bm,aN,a8,aY,bk,bR,gZ,cx,j6]
    rw[List.take_of_length_le (by omega)]
   ·have bR:(((n+3:Nat):Int)==(q:Int))=false:=by rw[beq_eq_false_iff_ne];omega
    generalize hC w (n+1)=CB at*
    simp (maxSteps:=2000000) only[↓al,ak,↓reduceIte,reduceCtorEq,Nat.reduceEqDiff,Nat.reduceLeDiff,Nat.reduceSub,Nat.reduceAdd,Int.reduceToNat,Nat.reducePow,Int.reducePow,Int.reduceLE,Int.reduceLT,IntKind.bits,h0,h1,bI,bd,bL,aF,bm,aN,a8,aY,bk,bR,cx,j6]
    omega
  clear h0 h1 bI bd bL aF bm aN a8 aY bk
  rintro s ⟨bw,h0,h1,bI,bd,bL,⟨aF,bm⟩,⟨aN,a8⟩,aY,bk⟩
  have af:=(zr fr n).1
  have b1:=tz wh af
  have ep:=tz wh (r8 af)
  obtain⟨⟨dw,t1⟩,eK,aR,t2⟩:=key (dJ o (aC w n).c) (gv b1 (by omega) (by omega))
  obtain⟨⟨e9,t3⟩,oN,aS,t4⟩:=key (dJ o (dd (aC w n).c)) (gv ep (by omega) (by omega))
  have ek:aC w (n+1)=⟨gI (dJ o (aC w n).c) w,gI (dJ o (dd (aC w n).c)) w⟩:=by rw[bu];rfl
  rw[ek]
  have pa:gO.pre [aA o,aA (aC w n).c]:=⟨o,_,rfl,gv wh (by omega) (by omega),gv af (by omega) (by omega)⟩
  have oR:gO.res [aA o,aA (aC w n).c]=aA (dJ o (aC w n).c):=by simp only[gO,aA,aZ,dq]
  have kY:gC.pre [aA (aC w n).c]:=⟨_,rfl⟩
  have iY:gC.res [aA (aC w n).c]=aA (dd (aC w n).c):=by simp only[gC,aA,aZ,dq]
  have tc:gO.pre [aA o,aA (dd (aC w n).c)]:=⟨o,_,rfl,gv wh (by omega) (by omega),gv (r8 af) (by omega) (by omega)⟩
  have wi:gO.res [aA o,aA (dd (aC w n).c)]=aA (dJ o (dd (aC w n).c)):=by simp only[gO,aA,aZ,dq]
  clear key b1 ep ek af
  generalize aC w n=z at*
  generalize hC w (n+1)=CB at*
  generalize dJ o z.c=u at*
  generalize dd z.c=v at*
  generalize dJ o v=t at*
  generalize gI u w=x at*
  generalize gI t w=y at*
  generalize gV u (-1)=ahG at*
  generalize gV t (-1)=v5 at*
  unfold aA aZ at pa oR kY iY tc wi dw t1 eK t2 e9 t3 oN t4
  refine b3 (fun s=>j6 q w (n+3:Nat) CB (n+1) o z s∧cx 11 ahG s) ?_ ?_
  ·simp (maxSteps:=2000000) only[↓al,ak,↓reduceIte,reduceCtorEq,Nat.reduceEqDiff,Nat.reduceLeDiff,Nat.reduceSub,Nat.reduceAdd,Int.reduceToNat,Nat.reducePow,Int.reducePow,Int.reduceLE,Int.reduceLT,IntKind.bits,h0,h1,bI,bd,bL,aF,bm,aN,a8,aY,bk,xh,pa,oR,agL,dw,t1,cx,j6]
  clear h0 h1 bI bd bL aF bm aN a8 aY bk
  rintro s ⟨⟨h0,h1,bI,bd,bL,⟨aF,bm⟩,⟨aN,a8⟩,aY,bk⟩,cB,dk⟩
  refine b3 (fun s=>j6 q w (n+3:Nat) CB (n+1) o z s∧cx 11 ahG s∧cx 12 v5 s) ?_ ?_
  ·simp (maxSteps:=2000000) only[↓al,ak,↓reduceIte,reduceCtorEq,Nat.reduceEqDiff,Nat.reduceLeDiff,Nat.reduceSub,Nat.reduceAdd,Int.reduceToNat,Nat.reducePow,Int.reducePow,Int.reduceLE,Int.reduceLT,IntKind.bits,h0,h1,bI,bd,bL,aF,bm,aN,a8,aY,bk,cB,dk,xh,tc,wi,s5,kY,iY,agL,e9,t3,cx,j6]
   exact⟨by decide,by decide⟩
  clear h0 h1 bI bd bL aF bm aN a8 aY bk cB dk
  rintro s ⟨⟨h0,h1,bI,bd,bL,⟨aF,bm⟩,⟨aN,a8⟩,aY,bk⟩,⟨cB,dk⟩,b9,de⟩
  refine b3 (fun s=>j6 q w (n+3:Nat) CB (n+1) o ⟨x,z.s⟩ s∧cx 12 v5 s) ?_ ?_
  ·simp (maxSteps:=2000000) only[↓al,ak,↓reduceIte,reduceCtorEq,Nat.reduceEqDiff,Nat.reduceLeDiff,Nat.reduceSub,Nat.reduceAdd,Int.reduceToNat,Nat.reducePow,Int.reducePow,Int.reduceLE,Int.reduceLT,IntKind.bits,h0,h1,bI,bd,bL,aF,bm,aN,a8,aY,bk,cB,dk,b9,de,V4,eK,t2,cx,j6]
  clear h0 h1 bI bd bL aF bm aN a8 aY bk cB dk b9 de
  rintro s ⟨⟨h0,h1,bI,bd,bL,⟨aF,bm⟩,⟨aN,a8⟩,aY,bk⟩,b9,de⟩
  simp (maxSteps:=2000000) only[↓al,ak,↓reduceIte,reduceCtorEq,Nat.reduceEqDiff,Nat.reduceLeDiff,Nat.reduceSub,Nat.reduceAdd,Int.reduceToNat,Nat.reducePow,Int.reducePow,Int.reduceLE,Int.reduceLT,IntKind.bits,h0,h1,bI,bd,bL,aF,bm,aN,a8,aY,bk,b9,de,V4,oN,t4,cx,j6,bw]
 ·clear h0 h1 bI bd bL aF bm aN a8 aY bk
  rintro s ⟨bw,aG⟩
  refine wE (fun s=>s.ag 10= .d (.int .i64 (n+1+3:Nat))∧j6 q w (n+1+3:Nat) (hC w (n+1)) (n+1) o (aC w (n+1)) s) ?_ ?_
  rotate_left
  ·rintro s ⟨bI,aG⟩
   refine⟨⟨n+1,bw,aG⟩,?_⟩
   simp only[bI,jK]
   omega
  obtain⟨h0,h1,bI,bd,bL,⟨aF,bm⟩,⟨aN,a8⟩,aY,bk⟩:=aG
  generalize aC w (n+1)=z at*
  generalize hC w (n+1)=CB at*
  have cW:((n+3:Nat):Int)+1=((n+1+3:Nat):Int):=by omega
  simp (maxSteps:=2000000) only[↓al,ak,↓reduceIte,reduceCtorEq,Nat.reduceEqDiff,Nat.reduceLeDiff,Nat.reduceSub,Nat.reduceAdd,Int.reduceToNat,Nat.reducePow,Int.reducePow,Int.reduceLE,Int.reduceLT,IntKind.bits,h0,h1,bI,bd,bL,aF,bm,aN,a8,aY,bk,cW,cx,j6]
  simp only[aO];omega
theorem Z3 {Γ:Env} {c:bB} {a b:ay} {Q:e6→St→Prop} {σ:St} (h:σ.a3 c= .d (.bool true)) (a9:cp Γ a Q σ):cp Γ (.cond c a b) Q σ:=by
 rw[cp]
 rw[h]
 exact⟨fun _=>a9,fun e=>by cases e⟩
def jO (K Q q w:Int) (L:List (List D)) (p:dI) (s:St):Prop:=s.ag 1= .d (.int .i64 w)∧s.ag 2= .d (.recs 12 L)∧s.ag 3= .box 3 0∧s.az 3=some ⟨false,false,.cells [.d (.int .i64 K),.d (.int .i64 Q)]⟩∧cS 6 s∧cS 7 s∧cx 8 p.c s∧cx 9 p.s s∧s.ag 10= .d (.int .i64 q)
theorem anw (Γ:Env) (vT:Γ.has 46 fK) (yn:Γ.has 19 gN) (xi:Γ.has 34 gP) (s5:Γ.has 28 gC) (xh:Γ.has 32 gO) (agN:Γ.has 36 vR) (ds:List D) (h:BE.pre ds):bT Γ Se Sf ds fun d=>d=BE.res ds:=by
 obtain⟨a,w,N,rfl,a9,cK,asS,fr,gg⟩:=h
 have cu:BE.res [iW a,.int .i64 w,yq w N]=kt (rest (bS a) (a2 a) w):=rfl
 rw[cu]
 have JP:iW a=cq (bS a) (a2 a):=rfl
 rw[JP]
 have cj:=LG (a:=a) (by omega)
 generalize bS a=K at*
 generalize a2 a=Q at*
 clear JP cu
 obtain⟨L,dO⟩:∃L,L=hC w N:=⟨_,rfl⟩
 have WM:yq w N= .recs 12 L:=by rw[dO];rfl
 have asT:L.length=N:=by rw[dO,PG]
 have agO:∀i,i<N→L.getD i []=qI (aC w i):=fun i hi=>by
  rw[dO];unfold hC
  rw[List.getD_eq_getElem?_getD,List.getElem?_map,List.getElem?_range hi];rfl
 rw[WM]
 obtain⟨o,bu⟩:∃o,o=i1:=⟨_,rfl⟩
 have p1:fK.pre [.int .i64 1]:=⟨1,rfl,by omega,by omega⟩
 have bX:fK.res [.int .i64 1]=aI d1:=by
  have:mk (decide ((1:Int)<0)) (Int.natAbs 1) 0=d1:=vS
  simp only[fK,this]
 have cU:gN.pre [aI d1]:=⟨d1,rfl⟩
 have ch:gN.res [aI d1]=aA o:=by simp only[gN,aI,aZ,cd,bu];rfl
 have ta:ao 0=[]:=hk
 have gT:gN.pre [.agg [.bool false,.ints .i64 [],.int .i64 0]]:=⟨⟨false,0,0⟩,by unfold aI aZ;rw[ta]⟩
 obtain⟨z,br⟩:∃z:bP,z=⟨⟨false,0,0⟩,⟨false,0,0⟩⟩:=⟨_,rfl⟩
 have gS:gN.res [.agg [.bool false,.ints .i64 [],.int .i64 0]]=aA z:=by
  have e:(.agg [.bool false,.ints .i64 [],.int .i64 0]:D)=aI ⟨false,0,0⟩:=by unfold aI aZ;rw[ta]
  rw[e,br]
  have bc:eA (aI ⟨false,0,0⟩)=⟨false,0,0⟩:=cd ⟨false,0,0⟩
  simp only[gN,bc];rfl
 have aqj:p0=⟨o,z⟩:=by rw[bu,br];rfl
 rw[fU]
 unfold Se Sf
 refine b3 (fun s=>s.ag 1= .d (.int .i64 w)∧s.ag 2= .d (.recs 12 L)∧s.ag 3= .box 3 0∧s.az 3=some ⟨false,false,.cells [.d (.int .i64 K),.d (.int .i64 Q)]⟩∧cS 6 s∧cS 7 s) ?_ ?_
 ·simp (maxSteps:=2000000) only[↓al,ak,↓reduceIte,reduceCtorEq,Nat.reduceEqDiff,Nat.reduceLeDiff,Nat.reduceSub,Nat.reduceAdd,Int.reduceToNat,Nat.reducePow,Int.reducePow,Int.reduceLE,Int.reduceLT,IntKind.bits,cq,cS]
 rintro s ⟨h1,h2,aq,aW,⟨aN,a8⟩,aM,bb⟩
 refine b3 (fun s=>s.ag 1= .d (.int .i64 w)∧s.ag 2= .d (.recs 12 L)∧s.ag 3= .box 3 0∧s.az 3=some ⟨false,false,.cells [.d (.int .i64 K),.d (.int .i64 Q)]⟩∧cS 6 s∧cS 7 s∧cx 8 o s) ?_ ?_
 ·unfold aI aZ at bX cU ch
  unfold aA aZ at ch
  simp (maxSteps:=2000000) only[↓al,ak,↓reduceIte,reduceCtorEq,Nat.reduceEqDiff,Nat.reduceLeDiff,Nat.reduceSub,Nat.reduceAdd,Int.reduceToNat,Nat.reducePow,Int.reducePow,Int.reduceLE,Int.reduceLT,IntKind.bits,h1,h2,aq,aW,aN,a8,aM,bb,vT,p1,bX,yn,cU,ch,cS,cx]
 clear h1 h2 aq aW aN a8 aM bb
 rintro s ⟨h1,h2,aq,aW,⟨aN,a8⟩,⟨aM,bb⟩,aY,bk⟩
 refine b3 (fun s=>s.ag 1= .d (.int .i64 w)∧s.ag 2= .d (.recs 12 L)∧s.ag 3= .box 3 0∧s.az 3=some ⟨false,false,.cells [.d (.int .i64 K),.d (.int .i64 Q)]⟩∧cS 6 s∧cS 7 s∧cx 8 o s∧cx 9 z s) ?_ ?_
 ·unfold aA aZ at gS
  simp (maxSteps:=2000000) only[↓al,ak,↓reduceIte,reduceCtorEq,Nat.reduceEqDiff,Nat.reduceLeDiff,Nat.reduceSub,Nat.reduceAdd,Int.reduceToNat,Nat.reducePow,Int.reducePow,Int.reduceLE,Int.reduceLT,IntKind.bits,h1,h2,aq,aW,aN,a8,aM,bb,aY,bk,yn,gT,gS,cS,cx]
 clear h1 h2 aq aW aN a8 aM bb aY bk
 rintro s ⟨h1,h2,aq,aW,⟨aN,a8⟩,⟨aM,bb⟩,⟨aY,bk⟩,bd,bL⟩
 obtain⟨R,en⟩:∃R,R=rest K Q w:=⟨_,rfl⟩
 obtain⟨n,aQ⟩:∃n,n=((Q:Int) - 2).toNat:=⟨_,rfl⟩
 have Ce:R=rE K Q w n 3 p0:=by rw[en,aQ];rfl
 rw[←en]
 refine bZ (fun s=>cS 6 s∧cS 7 s∧cx 8 R.c s∧cx 9 R.s s) ?_ ?_
 rotate_left
 ·clear h1 h2 aq aW aN a8 aM bb aY bk bd bL
  rintro s ⟨⟨aN,a8⟩,⟨aM,bb⟩,⟨aY,bk⟩,bd,bL⟩
  simp (maxSteps:=2000000) only[↓al,ak,↓reduceIte,reduceCtorEq,Nat.reduceEqDiff,Nat.reduceLeDiff,Nat.reduceSub,Nat.reduceAdd,Int.reduceToNat,Nat.reducePow,Int.reducePow,Int.reduceLE,Int.reduceLT,IntKind.bits,aN,a8,aM,bb,aY,bk,bd,bL,kt,aA,aZ]
  (repeat' apply And.intro)<;>decide
 refine b3 (jO K Q 3 w L p0) ?_ ?_
 ·rw[aqj]
  simp (maxSteps:=2000000) only[↓al,ak,↓reduceIte,reduceCtorEq,Nat.reduceEqDiff,Nat.reduceLeDiff,Nat.reduceSub,Nat.reduceAdd,Int.reduceToNat,Nat.reducePow,Int.reducePow,Int.reduceLE,Int.reduceLT,IntKind.bits,h1,h2,aq,aW,aN,a8,aM,bb,aY,bk,bd,bL,jO,cS,cx]
 clear h1 h2 aq aW aN a8 aM bb aY bk bd bL p1 bX cU ch gT gS
 intro s aG
 rw[k3]
 refine fp (fun s=>∃(k:Nat) (p:dI),k≤n∧rE K Q w (n - k) (k+3) p=R∧p.win (-((k:Int)*(2*w+16))) (1+10*k)∧jO K Q (k+3:Nat) w L p s) (fun s=>match s.ag 10 with| .d (.int _ n)=>(100 - n).toNat|_=>0) ⟨0,p0,by omega,Ce.symm,SK (by omega) (by omega),aG⟩ ?_
 clear aG
 rintro s ⟨k,p,zV,gd,qy,h1,h2,aq,aW,⟨aN,a8⟩,⟨aM,bb⟩,⟨aY,bk⟩,⟨bd,bL⟩,bI⟩
 have jK:=bI
 by_cases Ge:((k+3:Nat):Int)≤(Q:Int)
 rotate_left
 ·have cm:n - k=0:=by omega
  rw[cm]at gd
  have gd:p=R:=gd
  subst gd
  simp (maxSteps:=2000000) only[↓al,ak,↓reduceIte,reduceCtorEq,Nat.reduceEqDiff,Nat.reduceLeDiff,Nat.reduceSub,Nat.reduceAdd,Int.reduceToNat,Nat.reducePow,Int.reducePow,Int.reduceLE,Int.reduceLT,IntKind.bits,h1,h2,aq,aW,aN,a8,aM,bb,aY,bk,bd,bL,bI,Ge,cS,cx]
 have bw:k<n:=by omega
 have r2:=zr fr k
 have ap2:(k:Int)*(2*w+16)≤12*(2*w+16):=Int.mul_le_mul_of_nonneg_right (by omega) (by omega)
 have ant:0≤(k:Int)*(2*w+16):=Int.mul_nonneg (by omega) (by omega)
 refine b3 (jO K Q (k+3:Nat) w L p) ?_ ?_
 ·simp (maxSteps:=2000000) only[↓al,ak,↓reduceIte,reduceCtorEq,Nat.reduceEqDiff,Nat.reduceLeDiff,Nat.reduceSub,Nat.reduceAdd,Int.reduceToNat,Nat.reducePow,Int.reducePow,Int.reduceLE,Int.reduceLT,IntKind.bits,h1,h2,aq,aW,aN,a8,aM,bb,aY,bk,bd,bL,bI,Ge,cS,cx,jO]
 clear h1 h2 aq aW aN a8 aM bb aY bk bd bL bI
 rintro s ⟨h1,h2,aq,aW,⟨aN,a8⟩,⟨aM,bb⟩,⟨aY,bk⟩,⟨bd,bL⟩,bI⟩
 obtain⟨dH,tZ⟩:∃dH:dI,dH=if (K / 2^(Q - (k+3))) % 2=1 then tC p (aC w k) w else p:=⟨_,rfl⟩
 have fj:rE K Q w (n - (k+1)) (k+1+3) dH=R:=by
  rw[←gd,show n - k=n - (k+1)+1 by omega,ZT,Int.toNat_natCast,Int.toNat_natCast,show k+3 - 3=k by omega,tZ]
 have iL:dH.win (-(((k+1:Nat):Int)*(2*w+16))) (1+10*((k+1:Nat):Int)):=by
  have e:((k+1:Nat):Int)*(2*w+16)=(k:Int)*(2*w+16)+(2*w+16):=by rw[Int.natCast_add,Int.add_mul];omega
  rw[tZ,e]
  split
  ·exact wM (PZ qy r2 fr) (by omega) (by omega)
  ·exact wM qy (by omega) (by omega)
 refine b3 (jO K Q (k+3:Nat) w L dH) ?_ ?_
 rotate_left
 ·clear h1 h2 aq aW aN a8 aM bb aY bk bd bL bI
  intro s aG
  refine wE (fun s=>s.ag 10= .d (.int .i64 (k+1+3:Nat))∧jO K Q (k+1+3:Nat) w L dH s) ?_ ?_
  rotate_left
  ·rintro s ⟨bI,aG⟩
   refine⟨⟨k+1,dH,bw,fj,iL,aG⟩,?_⟩
   simp only[bI,jK]
   omega
  obtain⟨h1,h2,aq,aW,⟨aN,a8⟩,⟨aM,bb⟩,⟨aY,bk⟩,⟨bd,bL⟩,bI⟩:=aG
  have cW:((k+3:Nat):Int)+1=((k+1+3:Nat):Int):=by omega
  simp (maxSteps:=2000000) only[↓al,ak,↓reduceIte,reduceCtorEq,Nat.reduceEqDiff,Nat.reduceLeDiff,Nat.reduceSub,Nat.reduceAdd,Int.reduceToNat,Nat.reducePow,Int.reducePow,Int.reduceLE,Int.reduceLT,IntKind.bits,h1,h2,aq,aW,aN,a8,aM,bb,aY,bk,bd,bL,bI,cW,cS,cx,jO]
  simp only[aO];omega
 rw[k3]
 have es:(Q:Int) - ((k+3:Nat):Int)=((Q - (k+3):Nat):Int):=by omega
 have Cm:Q - (k+3)≤64:=by omega
 have aw:=acp K (Q - (k+3))
 have dk:((1:Int)==1)=true:=rfl
 have VX:((0:Int)==1)=false:=rfl
 obtain⟨t,ah⟩:∃t:Bool,t=decide (K / 2^(Q - (k+3)) % 2=1):=⟨_,rfl⟩
 refine b3 (fun s=>s.ag 32= .d (.bool t)∧jO K Q (k+3:Nat) w L p s) ?_ ?_
 ·rcases (by omega:K / 2^(Q - (k+3)) % 2=1∨K / 2^(Q - (k+3)) % 2=0)with au|au
  ·rw[au]at aw
   have aw:lb .i64 ((K:Int).fdiv (2^(Q - (k+3)))) 1=1:=aw
   have ah:t=true:=by rw[ah,au];rfl
   simp (maxSteps:=2000000) only[↓al,ak,↓reduceIte,reduceCtorEq,Nat.reduceEqDiff,Nat.reduceLeDiff,Nat.reduceSub,Nat.reduceAdd,Int.reduceToNat,Nat.reducePow,Int.reducePow,Int.reduceLE,Int.reduceLT,IntKind.bits,h1,h2,aq,aW,aN,a8,aM,bb,aY,bk,bd,bL,bI,es,Cm,aw,dk,ah,cS,cx,jO]
   exact⟨by simp only[aO];omega,by omega⟩
  ·rw[au]at aw
   have aw:lb .i64 ((K:Int).fdiv (2^(Q - (k+3)))) 1=0:=aw
   have ah:t=false:=by rw[ah,au];rfl
   simp (maxSteps:=2000000) only[↓al,ak,↓reduceIte,reduceCtorEq,Nat.reduceEqDiff,Nat.reduceLeDiff,Nat.reduceSub,Nat.reduceAdd,Int.reduceToNat,Nat.reducePow,Int.reducePow,Int.reduceLE,Int.reduceLT,IntKind.bits,h1,h2,aq,aW,aN,a8,aM,bb,aY,bk,bd,bL,bI,es,Cm,aw,VX,ah,cS,cx,jO]
   exact⟨by simp only[aO];omega,by omega⟩
 clear h1 h2 aq aW aN a8 aM bb aY bk bd bL bI
 rintro s ⟨NV,h1,h2,aq,aW,⟨aN,a8⟩,⟨aM,bb⟩,⟨aY,bk⟩,⟨bd,bL⟩,bI⟩
 cases t with
 |false=>
  have au:¬(K / 2^(Q - (k+3)) % 2=1):=of_decide_eq_false ah.symm
  rw[if_neg au]at tZ
  subst tZ
  simp (maxSteps:=2000000) only[↓al,ak,↓reduceIte,reduceCtorEq,Nat.reduceEqDiff,Nat.reduceLeDiff,Nat.reduceSub,Nat.reduceAdd,Int.reduceToNat,Nat.reducePow,Int.reducePow,Int.reduceLE,Int.reduceLT,IntKind.bits,NV,h1,h2,aq,aW,aN,a8,aM,bb,aY,bk,bd,bL,bI,Bool.false_eq_true,cS,cx,jO]
 |true=>
  have au:K / 2^(Q - (k+3)) % 2=1:=of_decide_eq_true ah.symm
  rw[if_pos au]at tZ
  refine Z3 NV ?_
  have aqk:((k+3:Nat):Int) - 3=(k:Int):=by omega
  have aql:k<L.length:=by omega
  have anx:(k:Int)<L.length:=by omega
  have V5:=agO k (by omega)
  generalize aC w k=q at*
  unfold qI aZ at V5
  refine b3 (fun s=>jO K Q (k+3:Nat) w L p s∧h4 11 q s) ?_ ?_
  ·simp (maxSteps:=2000000) only[↓al,ak,↓reduceIte,reduceCtorEq,Nat.reduceEqDiff,Nat.reduceLeDiff,Nat.reduceSub,Nat.reduceAdd,Int.reduceToNat,Nat.reducePow,Int.reducePow,Int.reduceLE,Int.reduceLT,IntKind.bits,NV,h1,h2,aq,aW,aN,a8,aM,bb,aY,bk,bd,bL,bI,aqk,aql,anx,V5,Int.toNat_natCast,cS,cx,h4,jO]
   ((repeat' apply And.intro)<;>first|assumption|with_reducible rfl|omega|(simp only[aO];omega)|exact⟨_,rfl⟩|exact⟨_,_,_,rfl⟩|exact⟨_,_,_,_,_,_,rfl⟩)
  clear h1 h2 aq aW aN a8 aM bb aY bk bd bL bI NV
  rintro s ⟨⟨h1,h2,aq,aW,⟨aN,a8⟩,⟨aM,bb⟩,⟨aY,bk⟩,⟨bd,bL⟩,bI⟩,cB,HY⟩
  have u:∀{lo hi:Int} {x:bP},x.win lo hi→-25000≤lo→hi≤25000→F8 x:=fun h l k=>gv h l k
  have v:∀{lo hi:Int} {x:bP},x.win lo hi→-50000≤lo→hi≤50000→hj x:=fun h l k=>gv h l k
  have JW:∀{x y:bP},x.win (-((k:Int)*(2*w+16))) (1+10*k)→y.win (-(2*w+16)) 8→gP.pre [aA x,aA y]∧gP.res [aA x,aA y]=aA (cP x y):=fun {x y} aj hy=>
   ⟨⟨x,y,rfl,u aj (by omega) (by omega),u hy (by omega) (by omega)⟩,by simp only[gP,aA,aZ,dq]⟩
  obtain⟨hh,iR⟩:=JW qy.1 r2.1
  obtain⟨iX,pT⟩:=JW qy.2 r2.2
  obtain⟨we,Ao⟩:=JW qy.2 r2.1
  obtain⟨xx,yE⟩:=JW qy.1 r2.2
  have b8:=tx qy.1 r2.1
  have cL:=tx qy.2 r2.2
  have r0:=tx qy.2 r2.1
  have JX:=tx qy.1 r2.2
  have wf:=r8 cL
  have wa:=tz b8 wf
  have wb:=tz r0 JX
  have kY:gC.pre [aA (cP p.s q.s)]:=⟨_,rfl⟩
  have iY:gC.res [aA (cP p.s q.s)]=aA (dd (cP p.s q.s)):=by simp only[gC,aA,aZ,dq]
  have pa:gO.pre [aA (cP p.c q.c),aA (dd (cP p.s q.s))]:=⟨_,_,rfl,v b8 (by omega) (by omega),v wf (by omega) (by omega)⟩
  have oR:gO.res [aA (cP p.c q.c),aA (dd (cP p.s q.s))]=aA (dJ (cP p.c q.c) (dd (cP p.s q.s))):=by simp only[gO,aA,aZ,dq]
  have tc:gO.pre [aA (cP p.s q.c),aA (cP p.c q.s)]:=⟨_,_,rfl,v r0 (by omega) (by omega),v JX (by omega) (by omega)⟩
  have wi:gO.res [aA (cP p.s q.c),aA (cP p.c q.s)]=aA (dJ (cP p.s q.c) (cP p.c q.s)):=by simp only[gO,aA,aZ,dq]
  have hN:vR.pre [aA (dJ (cP p.c q.c) (dd (cP p.s q.s))),.int .i64 w]:=⟨_,w,rfl,v wa (by omega) (by omega),fr,by omega⟩
  have rc:vR.res [aA (dJ (cP p.c q.c) (dd (cP p.s q.s))),.int .i64 w]=aA (qh (dJ (cP p.c q.c) (dd (cP p.s q.s))) w):=by simp only[vR,aA,aZ,dq]
  have Oe:vR.pre [aA (dJ (cP p.s q.c) (cP p.c q.s)),.int .i64 w]:=⟨_,w,rfl,v wb (by omega) (by omega),fr,by omega⟩
  have rd:vR.res [aA (dJ (cP p.s q.c) (cP p.c q.s)),.int .i64 w]=aA (qh (dJ (cP p.s q.c) (cP p.c q.s)) w):=by simp only[vR,aA,aZ,dq]
  have ahH:dH=⟨qh (dJ (cP p.c q.c) (dd (cP p.s q.s))) w,qh (dJ (cP p.s q.c) (cP p.c q.s)) w⟩:=tZ
  rw[ahH]
  clear JW b8 cL r0 JX wf wa wb fj iL tZ ahH agO V5 qy r2 gd
  generalize cP p.c q.c=eJ at*
  generalize cP p.s q.s=kX at*
  generalize cP p.s q.c=arL at*
  generalize cP p.c q.s=arM at*
  generalize dd kX=arN at*
  generalize dJ eJ arN=WT at*
  generalize dJ arL arM=WU at*
  generalize qh WT w=arO at*
  generalize qh WU w=atm at*
  unfold aA aZ at hh iR iX pT we Ao xx yE kY iY pa oR tc wi hN rc Oe rd
  refine b3 (fun s=>jO K Q (k+3:Nat) w L p s∧h4 11 q s∧cx 12 WT s) ?_ ?_
  ·simp (maxSteps:=2000000) only[↓al,ak,↓reduceIte,reduceCtorEq,Nat.reduceEqDiff,Nat.reduceLeDiff,Nat.reduceSub,Nat.reduceAdd,Int.reduceToNat,Nat.reducePow,Int.reducePow,Int.reduceLE,Int.reduceLT,IntKind.bits,h1,h2,aq,aW,aN,a8,aM,bb,aY,bk,bd,bL,bI,cB,HY,xi,hh,iR,iX,pT,s5,kY,iY,xh,pa,oR,cS,cx,h4,jO]
   (repeat' apply And.intro)<;>decide
  clear h1 h2 aq aW aN a8 aM bb aY bk bd bL bI cB HY
  rintro s ⟨⟨h1,h2,aq,aW,⟨aN,a8⟩,⟨aM,bb⟩,⟨aY,bk⟩,⟨bd,bL⟩,bI⟩,⟨cB,HY⟩,b9,de⟩
  refine b3 (fun s=>jO K Q (k+3:Nat) w L p s∧cx 12 WT s∧cx 13 WU s) ?_ ?_
  ·simp (maxSteps:=2000000) only[↓al,ak,↓reduceIte,reduceCtorEq,Nat.reduceEqDiff,Nat.reduceLeDiff,Nat.reduceSub,Nat.reduceAdd,Int.reduceToNat,Nat.reducePow,Int.reducePow,Int.reduceLE,Int.reduceLT,IntKind.bits,h1,h2,aq,aW,aN,a8,aM,bb,aY,bk,bd,bL,bI,cB,HY,b9,de,xi,we,Ao,xx,yE,xh,tc,wi,cS,cx,h4,jO]
   (repeat' apply And.intro)<;>decide
  clear h1 h2 aq aW aN a8 aM bb aY bk bd bL bI cB HY b9 de
  rintro s ⟨⟨h1,h2,aq,aW,⟨aN,a8⟩,⟨aM,bb⟩,⟨aY,bk⟩,⟨bd,bL⟩,bI⟩,⟨b9,de⟩,cH,gf⟩
  refine b3 (fun s=>jO K Q (k+3:Nat) w L ⟨arO,p.s⟩ s∧cx 13 WU s) ?_ ?_
  ·simp (maxSteps:=2000000) only[↓al,ak,↓reduceIte,reduceCtorEq,Nat.reduceEqDiff,Nat.reduceLeDiff,Nat.reduceSub,Nat.reduceAdd,Int.reduceToNat,Nat.reducePow,Int.reducePow,Int.reduceLE,Int.reduceLT,IntKind.bits,h1,h2,aq,aW,aN,a8,aM,bb,aY,bk,bd,bL,bI,b9,de,cH,gf,agN,hN,rc,cS,cx,jO]
  clear h1 h2 aq aW aN a8 aM bb aY bk bd bL bI b9 de cH gf
  rintro s ⟨⟨h1,h2,aq,aW,⟨aN,a8⟩,⟨aM,bb⟩,⟨aY,bk⟩,⟨bd,bL⟩,bI⟩,cH,gf⟩
  simp (maxSteps:=2000000) only[↓al,ak,↓reduceIte,reduceCtorEq,Nat.reduceEqDiff,Nat.reduceLeDiff,Nat.reduceSub,Nat.reduceAdd,Int.reduceToNat,Nat.reducePow,Int.reducePow,Int.reduceLE,Int.reduceLT,IntKind.bits,h1,h2,aq,aW,aN,a8,aM,bb,aY,bk,bd,bL,bI,cH,gf,agN,Oe,rd,cS,cx,jO]
theorem Pj {a q:Nat} (h:a<1152921504606846976) (a7:q≤60):a2 a≤q↔2^(60 - q)∣a:=by
 by_cases h0:a=0
 ·subst h0;exact⟨fun _=>Nat.dvd_zero _,fun _=>by rw[xS.2];omega⟩
 ·have br:=Mk h0 h
  have e:a2 a=60 - b2 a:=by unfold a2;rw[if_neg h0]
  have aG:=(jB h0).1
  constructor
  ·intro k
   rw[←aG]
   refine Nat.dvd_trans ?_ (Nat.dvd_mul_left _ _)
   exact Nat.pow_dvd_pow 2 (show 60 - q≤b2 a by omega)
  ·intro k
   have:=ZI (k:=60 - q) h0 (Nat.mod_eq_zero_of_dvd k)
   omega
theorem ami {a q:Nat} (h:a<1152921504606846976) (aq:3≤q) (a7:q≤60) (k:a2 a≤q):a2 (cz a)≤q:=by
 rw[Pj h a7]at k
 rw[Pj (by have:=Dh a;omega) a7]
 have d:2^(60 - q)∣144115188075855872:=by
  rw[show 144115188075855872=2^57 by decide]
  exact Nat.pow_dvd_pow 2 (by omega)
 unfold cz
 split
 ·exact Nat.dvd_sub k (Nat.dvd_trans d (Nat.dvd_mul_left _ _))
 ·exact Nat.dvd_sub (Nat.dvd_trans d (Nat.dvd_mul_left _ _)) k
def s7:bC where
 pre:=fun ds=>∃(K:Int) (Q:Nat) (w:Int),ds=[cq K Q,.int .i64 w]∧Q≤60∧aO K∧a2 (an K Q)≤14∧0≤w∧w≤800
 res:=fun ds=>match ds with
  |[.agg [.int _ K,.int _ Q],.int _ w]=>kt (eb (an K Q.toNat) w)
  |_=> .nilp
theorem aqm (Γ:Env) (pM:Γ.has 80 kp) (anz:Γ.has 115 x5) (anA:Γ.has 114 x4) (ds:List D) (h:s7.pre ds):bT Γ UW UX ds fun d=>d=s7.res ds:=by
 obtain⟨K,Q,w,rfl,cK,cj,a7,fr,gg⟩:=h
 have cu:s7.res [cq K Q,.int .i64 w]=kt (eb (an K Q) w):=by simp only[s7,cq,Int.toNat_natCast]
 rw[cu]
 have cI:=hv K Q
 have p1:=i80 cK cj
 have bX:=yp K Q
 obtain⟨q,asU⟩:∃q,q=max (a2 (an K Q)) 3:=⟨_,rfl⟩
 have asV:=ami cI (q:=q) (by omega) (by omega) (by omega)
 have aqn:(if (3:Int)>((a2 (an K Q):Nat):Int)then (3:Int)else ((a2 (an K Q):Nat):Int))=(q:Int):=by split<;>omega
 have cU:x5.pre [.int .i64 q,.int .i64 w]:=⟨q,w,rfl,by omega,by omega,fr,gg⟩
 have ch:x5.res [.int .i64 q,.int .i64 w]= .recs 12 (hC w (q - 2)):=by
  simp only[x5,show ((q:Int) - 2).toNat=q - 2 by omega];rfl
 have gT:x4.pre [.agg [.int .i64 K,.int .i64 Q],.int .i64 w,.recs 12 (hC w (q - 2))]:=⟨K,Q,w,q - 2,rfl,cK,cj,by omega,by omega,fr,gg⟩
 have gS:x4.res [.agg [.int .i64 K,.int .i64 Q],.int .i64 w,.recs 12 (hC w (q - 2))]=kt (eb (an K Q) w):=by simp only[x4,Int.toNat_natCast]
 generalize eb (an K Q) w=z at*
 generalize hC w (q - 2)=L at*
 generalize a2 (an K Q)=g at*
 generalize bS (an K Q)=atn at*
 unfold kt aA aZ at gS
 rw[fU]
 unfold UW UX
 refine b3 (fun s=>s.ag 1= .d (.int .i64 w)∧s.ag 2= .box 2 0∧s.az 2=some ⟨false,false,.cells [.d (.int .i64 K),.d (.int .i64 Q)]⟩∧cS 4 s∧cS 5 s) ?_ ?_
 ·simp (maxSteps:=2000000) only[↓al,ak,↓reduceIte,reduceCtorEq,Nat.reduceEqDiff,Nat.reduceLeDiff,Nat.reduceSub,Nat.reduceAdd,Int.reduceToNat,Nat.reducePow,Int.reducePow,Int.reduceLE,Int.reduceLT,IntKind.bits,cq,cS]
 rintro s ⟨h1,h2,aR,⟨aE,aS⟩,aF,bm⟩
 refine b3 (fun s=>cS 4 s∧cS 5 s∧cx 6 z.c s∧cx 7 z.s s) ?_ ?_
 ·simp (maxSteps:=2000000) only[↓al,ak,↓reduceIte,reduceCtorEq,Nat.reduceEqDiff,Nat.reduceLeDiff,Nat.reduceSub,Nat.reduceAdd,Int.reduceToNat,Nat.reducePow,Int.reducePow,Int.reduceLE,Int.reduceLT,IntKind.bits,h1,h2,aR,aE,aS,aF,bm,pM,p1,bX,aqn,anz,cU,ch,anA,gT,gS,cS,cx]
  (repeat' apply And.intro)<;>decide
 clear h1 h2 aR aE aS aF bm
 rintro s ⟨⟨aE,aS⟩,⟨aF,bm⟩,⟨aN,a8⟩,aM,bb⟩
 simp (maxSteps:=2000000) only[↓al,ak,↓reduceIte,reduceCtorEq,Nat.reduceEqDiff,Nat.reduceLeDiff,Nat.reduceSub,Nat.reduceAdd,Int.reduceToNat,Nat.reducePow,Int.reducePow,Int.reduceLE,Int.reduceLT,IntKind.bits,aE,aS,aF,bm,aN,a8,aM,bb,kt,aA,aZ]
 exact⟨by decide,by decide⟩
def iI (K Q n:Int) (w:Int) (s:St):Prop:=s.ag 1= .d (.int .i64 n)∧s.ag 2= .box 2 0∧s.az 2=some ⟨false,false,.cells [.d (.int .i64 K),.d (.int .i64 Q)]⟩∧cS 4 s∧s.ag 5= .d (.int .i64 w)
def Ah (aU:Int) (s:St):Nat:=match s.ag 5 with
 | .d (.int _ w)=>(aU+1000 - w).toNat
 |_=>0
def ys:bC where
 pre:=fun ds=>∃(K:Int) (Q n:Nat),ds=[cq K Q,.int .i64 n]∧Q≤60∧aO K∧a2 (an K Q)≤14∧n≤160
 res:=fun ds=>match ds with
  |[.agg [.int _ K,.int _ Q],.int _ n]=>aA (dR false (an K Q.toNat) n)
  |_=> .nilp
theorem aqo (Γ:Env) (pM:Γ.has 80 kp) (V6:Γ.has 81 s7) (V7:Γ.has 82 s4) (ds:List D) (h:ys.pre ds):bT Γ T7 T8 ds fun d=>d=ys.res ds:=by
 obtain⟨K,Q,n,rfl,cK,cj,a7,aQ⟩:=h
 have cu:ys.res [cq K Q,.int .i64 n]=aA (dR false (an K Q) n):=by simp only[ys,cq,Int.toNat_natCast]
 rw[cu]
 have cI:=hv K Q
 have JU:=i80 cK cj
 have JV:=yp K Q
 have kO:=A3 cI a7
 have aE:=KZ cI a7 aQ
 have As:∀w:Int,0≤w→w≤800→s7.pre [.agg [.int .i64 K,.int .i64 Q],.int .i64 w]:=fun w h0 h1=>⟨K,Q,w,rfl,cK,cj,a7,h0,h1⟩
 have At:∀w:Int,s7.res [.agg [.int .i64 K,.int .i64 Q],.int .i64 w]=kt (eb (an K Q) w):=fun w=>by simp only[s7,Int.toNat_natCast]
 have iL:∀w:Int,0≤w→w≤800→(eb (an K Q) w).win (-20000) 200:=fun w h0 h1=>C3 kO h0 h1
 unfold dR
 generalize an K Q=a at*
 generalize bS a=k at*
 obtain⟨aU,fr⟩:∃aU:Int,aU=(n:Int)+2*a2 a+40:=⟨_,rfl⟩
 rw[←fr]at aE⊢
 obtain⟨R,en⟩:∃R,R=iE false a n 4 aU:=⟨_,rfl⟩
 rw[←en]
 rw[fU]
 unfold T7 T8
 refine b3 (fun s=>s.ag 1= .d (.int .i64 n)∧s.ag 2= .box 2 0∧s.az 2=some ⟨false,false,.cells [.d (.int .i64 K),.d (.int .i64 Q)]⟩∧cS 4 s) ?_ ?_
 ·simp (maxSteps:=2000000) only[↓al,ak,↓reduceIte,reduceCtorEq,Nat.reduceEqDiff,Nat.reduceLeDiff,Nat.reduceSub,Nat.reduceAdd,Int.reduceToNat,Nat.reducePow,Int.reducePow,Int.reduceLE,Int.reduceLT,IntKind.bits,cq,cS]
 rintro s ⟨h1,h2,aR,gK,aS⟩
 refine b3 (iI K Q n aU) ?_ ?_
 ·simp (maxSteps:=2000000) only[↓al,ak,↓reduceIte,reduceCtorEq,Nat.reduceEqDiff,Nat.reduceLeDiff,Nat.reduceSub,Nat.reduceAdd,Int.reduceToNat,Nat.reducePow,Int.reducePow,Int.reduceLE,Int.reduceLT,IntKind.bits,h1,h2,aR,gK,aS,pM,JU,JV,cS,iI]
  rw[fr]
  ((repeat' apply And.intro)<;>first|assumption|with_reducible rfl|omega|(simp only[aO];omega)|exact⟨_,rfl⟩|exact⟨_,_,_,rfl⟩|exact⟨_,_,_,_,_,_,rfl⟩)
 clear h1 h2 aR gK aS
 intro s aG
 rw[k3]
 refine fp (fun s=>∃m:Nat,m≤4∧iE false a n (4 - m) (aU+64*m)=R∧iI K Q n (aU+64*m) s) (Ah aU) ⟨0,by omega,by rw[en,Int.natCast_zero,Int.mul_zero,Int.add_zero],by rw[Int.natCast_zero,Int.mul_zero,Int.add_zero];exact aG⟩ ?_
 clear aG
 rintro s ⟨m,hm,hf,h1,h2,aR,⟨gK,aS⟩,aF⟩
 obtain⟨w,Au⟩:∃w,w=aU+64*(m:Int):=⟨_,rfl⟩
 have j1:0≤w∧w≤800:=by omega
 have Af:aU+64*((m+1:Nat):Int)=w+64:=by omega
 have uz:m=4→hd (k1 false (eb a w)) n=true:=fun e=>by
  rw[Au,e,show ((4:Nat):Int)=4 from rfl]
  exact aE.1
 rw[←Au]at hf aF
 have Jy:Ah aU s=(aU+1000 - w).toNat:=by unfold Ah;rw[aF]
 have wj:=As w j1.1 j1.2
 have ro:=At w
 have hw:=iL w j1.1 j1.2
 clear As At iL aE en
 have Ag:iE false a n (4 - m) w=if hd (k1 false (eb a w)) n=true then fg (k1 false (eb a w)) n else if m=4 then fg (k1 false (eb a w)) n else iE false a n (4 - (m+1)) (w+64):=by
  by_cases cW:m=4
  ·subst cW
   rw[if_pos rfl]
   show fg _ _=_
   split<;>rfl
  ·rw[show 4 - m=4 - (m+1)+1 by omega,if_neg cW];rfl
 rw[Ag]at hf
 clear Ag
 generalize eb a w=P at*
 have xg:P.c.win (-20000) 200:=hw.1
 have hf:(if hd P.c n=true then fg P.c n else if m=4 then fg P.c n else iE false a n (4 - (m+1)) (w+64))=R:=hf
 have uz:m=4→hd P.c n=true:=uz
 obtain⟨y,hy⟩:∃y,y=fg P.c n:=⟨_,rfl⟩
 obtain⟨ok,cA⟩:∃ok,ok=hd P.c n:=⟨_,rfl⟩
 have kV:s4.pre [aA P.c,.int .i64 n]:=⟨P.c,n,rfl,win.up xg.1 (by omega) (by omega),win.up xg.2 (by omega) (by omega),by omega,by omega⟩
 have c1:s4.res [aA P.c,.int .i64 n]= .fh [aA y,.bool ok]:=by
  have:=acA (A2 xg) n
  simp only[s4,aA,aZ,dq,hy,cA,this]
 rw[←cA]at hf uz
 rw[←hy]at hf
 clear hy cA
 refine b3 (fun s=>ok=false∧iI K Q n w s) ?_ ?_
 ·rw[k3]
  refine b3 (fun s=>iI K Q n w s∧cx 6 P.c s) ?_ ?_
  ·unfold kt aA aZ at ro
   simp (maxSteps:=2000000) only[↓al,ak,↓reduceIte,reduceCtorEq,Nat.reduceEqDiff,Nat.reduceLeDiff,Nat.reduceSub,Nat.reduceAdd,Int.reduceToNat,Nat.reducePow,Int.reducePow,Int.reduceLE,Int.reduceLT,IntKind.bits,h1,h2,aR,gK,aS,aF,V6,wj,ro,cS,cx,iI]
  clear h1 h2 aR gK aS aF wj ro
  rintro s ⟨⟨h1,h2,aR,⟨gK,aS⟩,aF⟩,aN,a8⟩
  refine b3 (fun s=>iI K Q n w s∧cx 8 y s∧s.ag 9= .d (.bool ok)) ?_ ?_
  ·unfold aA aZ at kV c1
   simp (maxSteps:=2000000) only[↓al,ak,↓reduceIte,reduceCtorEq,Nat.reduceEqDiff,Nat.reduceLeDiff,Nat.reduceSub,Nat.reduceAdd,Int.reduceToNat,Nat.reducePow,Int.reducePow,Int.reduceLE,Int.reduceLT,IntKind.bits,h1,h2,aR,gK,aS,aF,aN,a8,V7,kV,c1,cS,cx,iI]
  clear h1 h2 aR gK aS aF aN a8 kV c1
  rintro s ⟨⟨h1,h2,aR,⟨gK,aS⟩,aF⟩,⟨aY,bk⟩,bd⟩
  cases ok with
  |true=>
   rw[if_pos rfl]at hf
   subst hf
   unfold aA aZ
   simp (maxSteps:=2000000) only[↓al,ak,↓reduceIte,reduceCtorEq,Nat.reduceEqDiff,Nat.reduceLeDiff,Nat.reduceSub,Nat.reduceAdd,Int.reduceToNat,Nat.reducePow,Int.reducePow,Int.reduceLE,Int.reduceLT,IntKind.bits,h1,h2,aR,gK,aS,aF,aY,bk,bd,cS,cx,iI]
  |false=>
   simp (maxSteps:=2000000) only[↓al,ak,↓reduceIte,reduceCtorEq,Nat.reduceEqDiff,Nat.reduceLeDiff,Nat.reduceSub,Nat.reduceAdd,Int.reduceToNat,Nat.reducePow,Int.reducePow,Int.reduceLE,Int.reduceLT,IntKind.bits,h1,h2,aR,gK,aS,aF,aY,bk,bd,cS,cx,iI,Bool.false_eq_true]
 clear h1 h2 aR gK aS aF wj ro
 rintro s ⟨cA,h1,h2,aR,⟨gK,aS⟩,aF⟩
 subst cA
 have cW:m≠4:=fun e=>by have:=uz e;cases this
 rw[if_neg (by decide),if_neg cW]at hf
 refine wE (iI K Q n (w+64)) ?_ ?_
 ·simp (maxSteps:=2000000) only[↓al,ak,↓reduceIte,reduceCtorEq,Nat.reduceEqDiff,Nat.reduceLeDiff,Nat.reduceSub,Nat.reduceAdd,Int.reduceToNat,Nat.reducePow,Int.reducePow,Int.reduceLE,Int.reduceLT,IntKind.bits,h1,h2,aR,gK,aS,aF,cS,iI]
  simp only[aO];omega
 intro dM aG
 refine⟨⟨m+1,by omega,by rw[Af];exact hf,by rw[Af];exact aG⟩,?_⟩
 rw[Jy]
 unfold Ah
 rw[aG.2.2.2.2]
 simp only
 omega
def yt:bC where
 pre:=fun ds=>∃(K:Int) (Q n:Nat),ds=[cq K Q,.int .i64 n]∧Q≤60∧aO K∧a2 (an K Q)≤14∧n≤160
 res:=fun ds=>match ds with
  |[.agg [.int _ K,.int _ Q],.int _ n]=>aA (dR true (an K Q.toNat) n)
  |_=> .nilp
theorem aqp (Γ:Env) (pM:Γ.has 80 kp) (V6:Γ.has 81 s7) (V7:Γ.has 82 s4) (ds:List D) (h:yt.pre ds):bT Γ Ub Uc ds fun d=>d=yt.res ds:=by
 obtain⟨K,Q,n,rfl,cK,cj,a7,aQ⟩:=h
 have cu:yt.res [cq K Q,.int .i64 n]=aA (dR true (an K Q) n):=by simp only[yt,cq,Int.toNat_natCast]
 rw[cu]
 have cI:=hv K Q
 have JU:=i80 cK cj
 have JV:=yp K Q
 have kO:=A3 cI a7
 have aE:=KZ cI a7 aQ
 have As:∀w:Int,0≤w→w≤800→s7.pre [.agg [.int .i64 K,.int .i64 Q],.int .i64 w]:=fun w h0 h1=>⟨K,Q,w,rfl,cK,cj,a7,h0,h1⟩
 have At:∀w:Int,s7.res [.agg [.int .i64 K,.int .i64 Q],.int .i64 w]=kt (eb (an K Q) w):=fun w=>by simp only[s7,Int.toNat_natCast]
 have iL:∀w:Int,0≤w→w≤800→(eb (an K Q) w).win (-20000) 200:=fun w h0 h1=>C3 kO h0 h1
 unfold dR
 generalize an K Q=a at*
 generalize bS a=k at*
 obtain⟨aU,fr⟩:∃aU:Int,aU=(n:Int)+2*a2 a+40:=⟨_,rfl⟩
 rw[←fr]at aE⊢
 obtain⟨R,en⟩:∃R,R=iE true a n 4 aU:=⟨_,rfl⟩
 rw[←en]
 rw[fU]
 unfold Ub Uc
 refine b3 (fun s=>s.ag 1= .d (.int .i64 n)∧s.ag 2= .box 2 0∧s.az 2=some ⟨false,false,.cells [.d (.int .i64 K),.d (.int .i64 Q)]⟩∧cS 4 s) ?_ ?_
 ·simp (maxSteps:=2000000) only[↓al,ak,↓reduceIte,reduceCtorEq,Nat.reduceEqDiff,Nat.reduceLeDiff,Nat.reduceSub,Nat.reduceAdd,Int.reduceToNat,Nat.reducePow,Int.reducePow,Int.reduceLE,Int.reduceLT,IntKind.bits,cq,cS]
 rintro s ⟨h1,h2,aR,gK,aS⟩
 refine b3 (iI K Q n aU) ?_ ?_
 ·simp (maxSteps:=2000000) only[↓al,ak,↓reduceIte,reduceCtorEq,Nat.reduceEqDiff,Nat.reduceLeDiff,Nat.reduceSub,Nat.reduceAdd,Int.reduceToNat,Nat.reducePow,Int.reducePow,Int.reduceLE,Int.reduceLT,IntKind.bits,h1,h2,aR,gK,aS,pM,JU,JV,cS,iI]
  rw[fr]
  ((repeat' apply And.intro)<;>first|assumption|with_reducible rfl|omega|(simp only[aO];omega)|exact⟨_,rfl⟩|exact⟨_,_,_,rfl⟩|exact⟨_,_,_,_,_,_,rfl⟩)
 clear h1 h2 aR gK aS
 intro s aG
 rw[k3]
 refine fp (fun s=>∃m:Nat,m≤4∧iE true a n (4 - m) (aU+64*m)=R∧iI K Q n (aU+64*m) s) (Ah aU) ⟨0,by omega,by rw[en,Int.natCast_zero,Int.mul_zero,Int.add_zero],by rw[Int.natCast_zero,Int.mul_zero,Int.add_zero];exact aG⟩ ?_
 clear aG
 rintro s ⟨m,hm,hf,h1,h2,aR,⟨gK,aS⟩,aF⟩
 obtain⟨w,Au⟩:∃w,w=aU+64*(m:Int):=⟨_,rfl⟩
 have j1:0≤w∧w≤800:=by omega
 have Af:aU+64*((m+1:Nat):Int)=w+64:=by omega
 have uz:m=4→hd (k1 true (eb a w)) n=true:=fun e=>by
  rw[Au,e,show ((4:Nat):Int)=4 from rfl]
  exact aE.2
 rw[←Au]at hf aF
 have Jy:Ah aU s=(aU+1000 - w).toNat:=by unfold Ah;rw[aF]
 have wj:=As w j1.1 j1.2
 have ro:=At w
 have hw:=iL w j1.1 j1.2
 clear As At iL aE en
 have Ag:iE true a n (4 - m) w=if hd (k1 true (eb a w)) n=true then fg (k1 true (eb a w)) n else if m=4 then fg (k1 true (eb a w)) n else iE true a n (4 - (m+1)) (w+64):=by
  by_cases cW:m=4
  ·subst cW
   rw[if_pos rfl]
   show fg _ _=_
   split<;>rfl
  ·rw[show 4 - m=4 - (m+1)+1 by omega,if_neg cW];rfl
 rw[Ag]at hf
 clear Ag
 generalize eb a w=P at*
 have xg:P.s.win (-20000) 200:=hw.2
 have hf:(if hd P.s n=true then fg P.s n else if m=4 then fg P.s n else iE true a n (4 - (m+1)) (w+64))=R:=hf
 have uz:m=4→hd P.s n=true:=uz
 obtain⟨y,hy⟩:∃y,y=fg P.s n:=⟨_,rfl⟩
 obtain⟨ok,cA⟩:∃ok,ok=hd P.s n:=⟨_,rfl⟩
 have kV:s4.pre [aA P.s,.int .i64 n]:=⟨P.s,n,rfl,win.up xg.1 (by omega) (by omega),win.up xg.2 (by omega) (by omega),by omega,by omega⟩
 have c1:s4.res [aA P.s,.int .i64 n]= .fh [aA y,.bool ok]:=by
  have:=acA (A2 xg) n
  simp only[s4,aA,aZ,dq,hy,cA,this]
 rw[←cA]at hf uz
 rw[←hy]at hf
 clear hy cA
 refine b3 (fun s=>ok=false∧iI K Q n w s) ?_ ?_
 ·rw[k3]
  refine b3 (fun s=>iI K Q n w s∧cx 7 P.s s) ?_ ?_
  ·unfold kt aA aZ at ro
   simp (maxSteps:=2000000) only[↓al,ak,↓reduceIte,reduceCtorEq,Nat.reduceEqDiff,Nat.reduceLeDiff,Nat.reduceSub,Nat.reduceAdd,Int.reduceToNat,Nat.reducePow,Int.reducePow,Int.reduceLE,Int.reduceLT,IntKind.bits,h1,h2,aR,gK,aS,aF,V6,wj,ro,cS,cx,iI]
  clear h1 h2 aR gK aS aF wj ro
  rintro s ⟨⟨h1,h2,aR,⟨gK,aS⟩,aF⟩,aN,a8⟩
  refine b3 (fun s=>iI K Q n w s∧cx 8 y s∧s.ag 9= .d (.bool ok)) ?_ ?_
  ·unfold aA aZ at kV c1
   simp (maxSteps:=2000000) only[↓al,ak,↓reduceIte,reduceCtorEq,Nat.reduceEqDiff,Nat.reduceLeDiff,Nat.reduceSub,Nat.reduceAdd,Int.reduceToNat,Nat.reducePow,Int.reducePow,Int.reduceLE,Int.reduceLT,IntKind.bits,h1,h2,aR,gK,aS,aF,aN,a8,V7,kV,c1,cS,cx,iI]
  clear h1 h2 aR gK aS aF aN a8 kV c1
  rintro s ⟨⟨h1,h2,aR,⟨gK,aS⟩,aF⟩,⟨aY,bk⟩,bd⟩
  cases ok with
  |true=>
   rw[if_pos rfl]at hf
   subst hf
   unfold aA aZ
   simp (maxSteps:=2000000) only[↓al,ak,↓reduceIte,reduceCtorEq,Nat.reduceEqDiff,Nat.reduceLeDiff,Nat.reduceSub,Nat.reduceAdd,Int.reduceToNat,Nat.reducePow,Int.reducePow,Int.reduceLE,Int.reduceLT,IntKind.bits,h1,h2,aR,gK,aS,aF,aY,bk,bd,cS,cx,iI]
  |false=>
   simp (maxSteps:=2000000) only[↓al,ak,↓reduceIte,reduceCtorEq,Nat.reduceEqDiff,Nat.reduceLeDiff,Nat.reduceSub,Nat.reduceAdd,Int.reduceToNat,Nat.reducePow,Int.reducePow,Int.reduceLE,Int.reduceLT,IntKind.bits,h1,h2,aR,gK,aS,aF,aY,bk,bd,cS,cx,iI,Bool.false_eq_true]
 clear h1 h2 aR gK aS aF wj ro
 rintro s ⟨cA,h1,h2,aR,⟨gK,aS⟩,aF⟩
 subst cA
 have cW:m≠4:=fun e=>by have:=uz e;cases this
 rw[if_neg (by decide),if_neg cW]at hf
 refine wE (iI K Q n (w+64)) ?_ ?_
 ·simp (maxSteps:=2000000) only[↓al,ak,↓reduceIte,reduceCtorEq,Nat.reduceEqDiff,Nat.reduceLeDiff,Nat.reduceSub,Nat.reduceAdd,Int.reduceToNat,Nat.reducePow,Int.reducePow,Int.reduceLE,Int.reduceLT,IntKind.bits,h1,h2,aR,gK,aS,aF,cS,iI]
  simp only[aO];omega
 intro dM aG
 refine⟨⟨m+1,by omega,by rw[Af];exact hf,by rw[Af];exact aG⟩,?_⟩
 rw[Jy]
 unfold Ah
 rw[aG.2.2.2.2]
 simp only
 omega
def fZ:List D→Bool
 |[.int _ K,.int _ Q]=>decide (0≤Q∧Q≤40∧-1099511627776≤K∧K≤1099511627776) && decide (Q≤14)
 |_=>false
def gh:bC where
 pre:=fun ds=>∃rows:List (List D),ds=[.recs 2 rows]∧(∀r∈rows,∃K Q:Int,r=[.int .i64 K,.int .i64 Q])∧rows.length≤1000
 res:=fun ds=>match ds with
  |[.recs _ rows]=> .bool (rows.all fZ)
  |_=> .nilp
theorem FV (Γ:Env) (V8:Γ.has 77 uw) (ds:List D) (h:gh.pre ds):bT Γ T1 T2 ds fun d=>d=gh.res ds:=by
 obtain⟨rows,rfl,SI,hlen⟩:=h
 have cu:gh.res [.recs 2 rows]= .bool (rows.all fZ):=rfl
 rw[cu]
 rw[fU]
 unfold T1 T2
 refine b3 (fun s=>s.ag 0= .d (.recs 2 rows)) ?_ ?_
 ·simp (maxSteps:=2000000) only[↓al,ak,↓reduceIte,reduceCtorEq,Nat.reduceEqDiff,Nat.reduceLeDiff,Nat.reduceSub,Nat.reduceAdd,Int.reduceToNat,Nat.reducePow,Int.reducePow,Int.reduceLE,Int.reduceLT,IntKind.bits]
 rintro s h0
 refine bZ (fun s=>∀k (af:k<rows.length),fZ rows[k]=true) ?_ ?_
 rotate_left
 ·intro s aG
  have:rows.all fZ=true:=by
   rw[List.all_eq_true]
   intro x aj
   obtain⟨k,af,rfl⟩:=List.getElem_of_mem aj
   exact aG k af
  rw[this]
  simp (maxSteps:=2000000) only[↓al,ak,↓reduceIte,reduceCtorEq,Nat.reduceEqDiff,Nat.reduceLeDiff,Nat.reduceSub,Nat.reduceAdd,Int.reduceToNat,Nat.reducePow,Int.reducePow,Int.reduceLE,Int.reduceLT,IntKind.bits]
 simp (maxSteps:=2000000) only[↓al,ak,↓reduceIte,reduceCtorEq,Nat.reduceEqDiff,Nat.reduceLeDiff,Nat.reduceSub,Nat.reduceAdd,Int.reduceToNat,Nat.reducePow,Int.reducePow,Int.reduceLE,Int.reduceLT,IntKind.bits,h0]
 refine fp (fun s=>∃i:Nat,s.ag 0= .d (.recs 2 rows)∧s.ag 3= .d (.int .i64 i)∧i≤rows.length∧∀k (af:k<rows.length),k<i→fZ rows[k]=true)
  (fun s=>match s.ag 3 with| .d (.int _ n)=>rows.length - n.toNat|_=>0) ?_ ?_
 ·refine⟨0,?_⟩
  simp (maxSteps:=2000000) only[↓al,ak,↓reduceIte,reduceCtorEq,Nat.reduceEqDiff,Nat.reduceLeDiff,Nat.reduceSub,Nat.reduceAdd,Int.reduceToNat,Nat.reducePow,Int.reducePow,Int.reduceLE,Int.reduceLT,IntKind.bits,h0]
  exact⟨rfl,Nat.zero_le _,fun k af VS=>absurd VS (Nat.not_lt_zero _)⟩
 clear h0
 rintro s ⟨i,h0,aq,hi,af⟩
 have jM:=aq
 refine b3 (fun s=>(i:Int)<rows.length∧s.ag 0= .d (.recs 2 rows)∧s.ag 3= .d (.int .i64 i)) ?_ ?_
 ·by_cases ci:(i:Int)<rows.length
  ·simp (maxSteps:=2000000) only[↓al,ak,↓reduceIte,reduceCtorEq,Nat.reduceEqDiff,Nat.reduceLeDiff,Nat.reduceSub,Nat.reduceAdd,Int.reduceToNat,Nat.reducePow,Int.reducePow,Int.reduceLE,Int.reduceLT,IntKind.bits,h0,aq,ci]
  ·simp (maxSteps:=2000000) only[↓al,ak,↓reduceIte,reduceCtorEq,Nat.reduceEqDiff,Nat.reduceLeDiff,Nat.reduceSub,Nat.reduceAdd,Int.reduceToNat,Nat.reducePow,Int.reducePow,Int.reduceLE,Int.reduceLT,IntKind.bits,h0,aq,ci]
   exact fun k cn=>af k cn (by omega)
 clear h0 aq
 rintro s ⟨ci,h0,aq⟩
 have gD:i<rows.length:=by omega
 obtain⟨K,Q,ar⟩:=SI rows[i] (List.getElem_mem gD)
 have bh:rows.getD i []=[.int .i64 K,.int .i64 Q]:=by
  rw[List.getD_eq_getElem?_getD,List.getElem?_eq_getElem gD,Option.getD_some,ar]
 have uc:fZ rows[i]=(decide (0≤Q∧Q≤40∧-1099511627776≤K∧K≤1099511627776) && decide (Q≤14)):=by rw[ar];rfl
 refine b3 (fun s=>fZ rows[i]=true∧s.ag 0= .d (.recs 2 rows)∧s.ag 3= .d (.int .i64 i)) ?_ ?_
 rotate_left
 ·clear h0 aq
  rintro s ⟨VT,h0,aq⟩
  simp (maxSteps:=2000000) only[↓al,ak,↓reduceIte,reduceCtorEq,Nat.reduceEqDiff,Nat.reduceLeDiff,Nat.reduceSub,Nat.reduceAdd,Int.reduceToNat,Nat.reducePow,Int.reducePow,Int.reduceLE,Int.reduceLT,IntKind.bits,h0,aq]
  refine⟨by simp only[aO];omega,⟨i+1,by omega,by omega,fun k cn EK=> ?_⟩,?_⟩
  ·rcases (by omega:k<i∨k=i)with e|rfl
   ·exact af k cn e
   ·exact VT
  ·simp only[jM]
   omega
 rw[k3]
 have xB:uw.pre [.agg [.int .i64 K,.int .i64 Q]]:=⟨K,Q,rfl⟩
 have jN:uw.res [.agg [.int .i64 K,.int .i64 Q]]= .bool (decide (0≤Q∧Q≤40∧-1099511627776≤K∧K≤1099511627776)):=rfl
 generalize decide (0≤Q∧Q≤40∧-1099511627776≤K∧K≤1099511627776)=b at*
 cases b with
 |false=>
  have gY:rows.all fZ=false:=Qr gD (by rw[uc];rfl)
  rw[gY]
  simp (maxSteps:=2000000) only[↓al,ak,↓reduceIte,reduceCtorEq,Nat.reduceEqDiff,Nat.reduceLeDiff,Nat.reduceSub,Nat.reduceAdd,Int.reduceToNat,Nat.reducePow,Int.reducePow,Int.reduceLE,Int.reduceLT,IntKind.bits,h0,aq,ci,gD,bh,Int.toNat_natCast,V8,xB,jN,Bool.not_false]
  first|done|((repeat' apply And.intro)<;>first|assumption|with_reducible rfl|omega|(simp only[aO];omega)|exact⟨_,rfl⟩|exact⟨_,_,_,rfl⟩|exact⟨_,_,_,_,_,_,rfl⟩)
 |true=>
  by_cases a7:Q≤14
  ·have kO:¬(Q>14):=by omega
   have:fZ rows[i]=true:=by rw[uc];simp[a7]
   simp (maxSteps:=2000000) only[↓al,ak,↓reduceIte,reduceCtorEq,Nat.reduceEqDiff,Nat.reduceLeDiff,Nat.reduceSub,Nat.reduceAdd,Int.reduceToNat,Nat.reducePow,Int.reducePow,Int.reduceLE,Int.reduceLT,IntKind.bits,h0,aq,ci,gD,bh,Int.toNat_natCast,V8,xB,jN,Bool.not_true,kO,this]
   first|done|((repeat' apply And.intro)<;>first|assumption|with_reducible rfl|omega|(simp only[aO];omega)|exact⟨_,rfl⟩|exact⟨_,_,_,rfl⟩|exact⟨_,_,_,_,_,_,rfl⟩)
  ·have kO:Q>14:=by omega
   have gY:rows.all fZ=false:=Qr gD (by rw[uc];simp[a7])
   rw[gY]
   simp (maxSteps:=2000000) only[↓al,ak,↓reduceIte,reduceCtorEq,Nat.reduceEqDiff,Nat.reduceLeDiff,Nat.reduceSub,Nat.reduceAdd,Int.reduceToNat,Nat.reducePow,Int.reducePow,Int.reduceLE,Int.reduceLT,IntKind.bits,h0,aq,ci,gD,bh,Int.toNat_natCast,V8,xB,jN,Bool.not_true,kO]
   first|done|((repeat' apply And.intro)<;>first|assumption|with_reducible rfl|omega|(simp only[aO];omega)|exact⟨_,rfl⟩|exact⟨_,_,_,rfl⟩|exact⟨_,_,_,_,_,_,rfl⟩)
def hG:bC where
 pre:=fun ds=>∃n:Int,ds=[.int .u8 n]∧0≤n∧n<256
 res:=fun ds=>match ds with
  |[.int _ n]=> .int .i64 (n % 70+1)
  |_=> .nilp
theorem FW (Γ:Env) (ds:List D) (h:hG.pre ds):bT Γ T3 T4 ds fun d=>d=hG.res ds:=by
 obtain⟨n,rfl,h0,h1⟩:=h
 have cu:hG.res [.int .u8 n]= .int .i64 (n % 70+1):=rfl
 rw[cu]
 have a4:IntKind.i64.wrap n=n:=by
  obtain⟨m,rfl⟩:∃m:Nat,n=m:=⟨n.toNat,by omega⟩
  exact wrap_small (by omega)
 have bc:n.tmod 70=n % 70:=Int.tmod_eq_emod_of_nonneg h0
 simp (maxSteps:=2000000) only[↓al,ak,↓reduceIte,reduceCtorEq,Nat.reduceEqDiff,Nat.reduceLeDiff,Nat.reduceSub,Nat.reduceAdd,Int.reduceToNat,Nat.reducePow,Int.reducePow,Int.reduceLE,Int.reduceLT,IntKind.bits,T3,T4,a4,bc]
 ((repeat' apply And.intro)<;>first|assumption|with_reducible rfl|omega|(simp only[aO];omega)|exact⟨_,rfl⟩|exact⟨_,_,_,rfl⟩|exact⟨_,_,_,_,_,_,rfl⟩)
def uA:bC where
 pre:=fun ds=>∃(K:Int) (Q:Nat),ds=[cq K Q]∧Q≤60∧aO K
 res:=fun ds=>match ds with
  |[.agg [.int _ K,.int _ Q]]=> .bool (decide ((a2 (an K Q.toNat):Int)≤2))
  |_=> .nilp
theorem V2 (Γ:Env) (pM:Γ.has 80 kp) (ds:List D) (h:uA.pre ds):bT Γ Uj Uk ds fun d=>d=uA.res ds:=by
 obtain⟨K,Q,rfl,cK,cj⟩:=h
 have cu:uA.res [cq K Q]= .bool (decide ((a2 (an K Q):Int)≤2)):=by simp only[uA,cq,Int.toNat_natCast]
 rw[cu]
 have p1:=i80 cK cj
 have bX:=yp K Q
 simp (maxSteps:=2000000) only[↓al,ak,↓reduceIte,reduceCtorEq,Nat.reduceEqDiff,Nat.reduceLeDiff,Nat.reduceSub,Nat.reduceAdd,Int.reduceToNat,Nat.reducePow,Int.reducePow,Int.reduceLE,Int.reduceLT,IntKind.bits,Uj,Uk,cq,pM,p1,bX]
end RV.Dr
