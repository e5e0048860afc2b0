/- Lemmas for a claim: an abstract machine for the translated code, proved sound, and contracts of functions. By an AI agent. -/
import Derived.Test.YtmdjhngbigfblaaGreatDoorRf
import Derived.Test.YtmdjhngbigfblaaGreatDoorRi
import Derived.Test.YtmdjhngbigfblaaGreatDoorRh
import Derived.Test.YtmdjhngbigfblaaGreatDoorRc
import Derived.Test.YtmdjhngbigfblaaGreatDoorRg
set_option linter.all false
namespace RV.Dr
open Go RV
set_option linter.unusedSimpArgs false
set_option linter.unusedVariables false
set_option maxRecDepth 100000
set_option maxHeartbeats 4000000
theorem LW:∀(f x:Nat),x<2^f→Lib.bitLenAux f x=bc x
 |0,x,h=>by
  have:x=0:=by simpa using h
  subst this;rfl
 |f+1,x,h=>by
  by_cases h0:x=0
  ·subst h0;simp[Lib.bitLenAux,j2]
  ·simp only[Lib.bitLenAux,if_neg h0]
   rw[LW f (x / 2) (by rw[Nat.pow_succ]at h;omega),Nd h0,Nat.add_comm]
theorem abw {n:Nat} (h:n<2^64):Lib.bitLen n=bc n:=LW 64 n h
def x6:bq where
 pre:=fun ds=>∃x:Int,ds=[.int .u64 x]∧0≤x∧x<18446744073709551616
 res:=fun ds=>match ds with
  |[.int _ x]=> .int .i64 (bc x.toNat)
  |_=> .nilp
theorem aec (B:Mem):my Go.Proofs.Tryz.prog B 144 x6:=by
 refine⟨⟨Go.Proofs.Tryz.f144,by kernel_rfl,by decide,by decide⟩,?_⟩
 rintro ds ⟨x,rfl,h0,h1⟩ w rd vs _ _ aq
 simp only[bI,bn]at aq
 obtain⟨v,us,aA,rfl,rfl⟩:=aq
 have yf:vs= #[.int .u64 x]:=by rw[←Array.toList_inj];exact aA
 subst yf
 refine(Go.Proofs.Tryz.El x w h0 (by omega)).mono ?_
 rintro e w' ⟨rfl,rfl⟩
 refine⟨_,rfl,RowKit.Below.refl _ _,fun _=> ?_,fun h=>by cases h⟩
 simp only[bn,x6]
 rw[abw (by omega)]
theorem af7 (Γ:Env) (f144:Γ.fn 144=some x6) (af8:Γ.mt 144=none) (ds:List D) (h:vr.pre ds):bH Γ G0 G1 ds fun d=>d=vr.res ds:=by
 obtain⟨x,rfl,h0,h1⟩:=h
 simp (maxSteps:=2000000) only[↓ak,aj,↓reduceIte,reduceCtorEq,Nat.reduceEqDiff,Nat.reduceLeDiff,Nat.reduceSub,Nat.reduceAdd,Int.reduceToNat,Nat.reducePow,Int.reducePow,Int.reduceLE,Int.reduceLT,IntKind.bits,G0,G1,vr,f144,af8,x6]
 exact⟨x,rfl,h0,h1⟩
def y6 (p:db):List ag:=[.d (.bool p.c.lo.neg),.d (.ints .i64 (ai p.c.lo.m)),.d (.int .i64 p.c.lo.e),.d (.bool p.c.hi.neg),.d (.ints .i64 (ai p.c.hi.m)),.d (.int .i64 p.c.hi.e),.d (.bool p.s.lo.neg),.d (.ints .i64 (ai p.s.lo.m)),.d (.int .i64 p.s.lo.e),.d (.bool p.s.hi.neg),.d (.ints .i64 (ai p.s.hi.m)),.d (.int .i64 p.s.hi.e)]
def pg (p:db) (s:St):Prop:=s.af 4= .box 4 0∧∃e,s.aw 4=some ⟨false,e,.cells [.d (.bool p.c.lo.neg),.d (.ints .i64 (ai p.c.lo.m)),.d (.int .i64 p.c.lo.e),.d (.bool p.c.hi.neg),.d (.ints .i64 (ai p.c.hi.m)),.d (.int .i64 p.c.hi.e),.d (.bool p.s.lo.neg),.d (.ints .i64 (ai p.s.lo.m)),.d (.int .i64 p.s.lo.e),.d (.bool p.s.hi.neg),.d (.ints .i64 (ai p.s.hi.m)),.d (.int .i64 p.s.hi.e)]⟩
theorem af9 (Γ:Env) (B4:Γ.has 151 oM) (Ta:Γ.has 156 pX) (KE:Γ.has 31 lW) (vW:Γ.has 27 jw) (ds:List D) (h:ts.pre ds) (M L:Nat):vp Γ (ts.seq ds) M L HE ds:=by
 obtain⟨w,rfl,eA,g9⟩:=h
 have dQ:∀k,ts.seq [.ptr [.int .i64 w]] k=some [dp (aA w k)]:=fun k=>rfl
 generalize ts.seq [.ptr [.int .i64 w]]=E at dQ⊢
 have l9:(nU L [.ptr [.int .i64 w]]).af 0= .c6 L:=rfl
 have s1:(nU L [.ptr [.int .i64 w]]).af 1= .d (.ptr [.int .i64 w]):=rfl
 unfold vp HE
 generalize nU L [.ptr [.int .i64 w]]=s at l9 s1⊢
 obtain⟨o,bh⟩:∃o,o=i1:=⟨_,rfl⟩
 have ob:o.win (-(2*w+16)) 8:=bh▸vw (by omega) (by omega)
 have p1:oM.pre []:=rfl
 have bP:oM.res []=aQ o:=by rw[bh];rfl
 unfold aQ a7 at bP
 have key:∀(x:bD),x.win (-(2*w+16)) 9→pX.pre [.agg [.bool x.lo.neg,.ints .i64 (ai x.lo.m),.int .i64 x.lo.e,.bool x.hi.neg,.ints .i64 (ai x.hi.m),.int .i64 x.hi.e],.ptr [.int .i64 w]]∧
  pX.res [.agg [.bool x.lo.neg,.ints .i64 (ai x.lo.m),.int .i64 x.lo.e,.bool x.hi.neg,.ints .i64 (ai x.hi.m),.int .i64 x.hi.e],.ptr [.int .i64 w]]=aQ (fl x w):=fun x ah=>
  ⟨⟨x,w,rfl,ff ah (by omega) (by omega),eA,by omega⟩,by simp only[pX,dw]⟩
 refine mg (fun s=>s.af 0= .c6 L∧s.af 3= .d (.fn 156 [] [.ptr [.int .i64 w]])) rfl ?_ ?_
 ·simp (maxSteps:=2000000) only[↓ak,aj,↓reduceIte,reduceCtorEq,Nat.reduceEqDiff,Nat.reduceLeDiff,Nat.reduceSub,Nat.reduceAdd,Int.reduceToNat,Nat.reducePow,Int.reducePow,Int.reduceLE,Int.reduceLT,IntKind.bits,l9,s1]
 clear l9 s1
 rintro s ⟨h0,al⟩
 refine mg (fun s=>s.af 0= .c6 L∧s.af 3= .d (.fn 156 [] [.ptr [.int .i64 w]])∧pg (aA w 0) s) rfl ?_ ?_
 ·obtain⟨cS,ca⟩:=key o (ff ob (by omega) (by omega))
  have cF:aA w 0=⟨fl o w,fl o w⟩:=by rw[bh];rfl
  rw[cF]
  unfold aQ a7 at ca
  generalize fl o w=z at ca⊢
  simp (maxSteps:=2000000) only[↓ak,aj,↓reduceIte,reduceCtorEq,Nat.reduceEqDiff,Nat.reduceLeDiff,Nat.reduceSub,Nat.reduceAdd,Int.reduceToNat,Nat.reducePow,Int.reducePow,Int.reduceLE,Int.reduceLT,IntKind.bits,h0,al,B4,p1,bP,Ta,cS,ca,pg,xv,w3]
  first|done|((repeat' apply And.intro)<;>first|assumption|with_reducible rfl|omega|(simp only[aG];omega)|exact⟨_,rfl⟩|exact⟨_,_,_,rfl⟩|exact⟨_,_,_,_,_,_,rfl⟩)
 clear h0 al
 rintro s ⟨h0,al,aE⟩
 refine wU ?_
 refine Eg (fun z s=>∃k:Nat,z=⟨k,true⟩∧s.af 0= .c6 L∧s.af 3= .d (.fn 156 [] [.ptr [.int .i64 w]])∧pg (aA w k) s) (fun z _=>M - z.k) ⟨0,rfl,h0,al,aE⟩ ?_
 clear h0 al aE
 rintro z s ⟨k,rfl,h0,al,aE⟩
 refine uR (fun z s=>z=⟨k+1,true⟩∧k+1<M∧s.af 0= .c6 L∧s.af 3= .d (.fn 156 [] [.ptr [.int .i64 w]])∧pg (aA w k) s) ?_ ?_
 ·refine uR (fun z s=>(z=⟨k+1,true⟩∧k+1<M∧s.af 15= .d (.bool true)∧s.af 0= .c6 L∧s.af 3= .d (.fn 156 [] [.ptr [.int .i64 w]])∧pg (aA w k) s)∨(z=⟨k,false⟩∧s.af 15= .d (.bool false))) ?_ ?_
  rotate_left
  ·clear h0 al aE
   rintro z s (⟨rfl,cj,iN,h0,al,aE⟩|⟨rfl,iN⟩)
   ·refine kA _ rfl ?_
    simp (maxSteps:=2000000) only[↓ak,aj,↓reduceIte,reduceCtorEq,Nat.reduceEqDiff,Nat.reduceLeDiff,Nat.reduceSub,Nat.reduceAdd,Int.reduceToNat,Nat.reducePow,Int.reducePow,Int.reduceLE,Int.reduceLT,IntKind.bits,iN]
    exact⟨cj,h0,al,aE⟩
   ·refine kA _ rfl ?_
    simp (maxSteps:=2000000) only[↓ak,aj,↓reduceIte,reduceCtorEq,Nat.reduceEqDiff,Nat.reduceLeDiff,Nat.reduceSub,Nat.reduceAdd,Int.reduceToNat,Nat.reducePow,Int.reducePow,Int.reduceLE,Int.reduceLT,IntKind.bits,iN]
  show gC Γ E M L _ _ _ _
  have y3:=dQ k
  generalize aA w k=p at y3 aE⊢
  refine Na 2 (fun s=>s.af 13= .c6 L∧s.af 14= .agg (y6 p)∧s.af 0= .c6 L∧s.af 3= .d (.fn 156 [] [.ptr [.int .i64 w]])∧pg p s) rfl ?_ ?_
  ·simp only[List.take_succ_cons,List.take_zero]
   obtain⟨aE,cx,aU⟩:=aE
   simp (maxSteps:=2000000) only[↓ak,aj,↓reduceIte,reduceCtorEq,Nat.reduceEqDiff,Nat.reduceLeDiff,Nat.reduceSub,Nat.reduceAdd,Int.reduceToNat,Nat.reducePow,Int.reducePow,Int.reduceLE,Int.reduceLT,IntKind.bits,h0,al,aE,aU,xv,w3,pg,y6]
   first|done|((repeat' apply And.intro)<;>first|assumption|with_reducible rfl|omega|(simp only[aG];omega)|exact⟨_,rfl⟩|exact⟨_,_,_,rfl⟩|exact⟨_,_,_,_,_,_,rfl⟩)
  clear h0 al aE
  rintro s ⟨dC,dH,h0,al,aE⟩
  show gC Γ E M L _ [⟨some 15,.gj (.t 13) [.t 14],none⟩] _ _
  have Vq:ch s [.t 14]=[.agg (y6 p)]:=by simp only[ch,List.map_cons,List.map_nil,St.aT,dH]
  refine L8 (ds:=[dp p]) dC (by rw[Vq];rfl) (by rw[Vq];rfl) rfl y3 (fun cj=> ?_) ?_
  ·have l4:=Nb h0
   have c3:=qU al
   obtain⟨aE,cx,aU⟩:=aE
   have gW:=Nc aE aU rfl
   have qw:=Oo aU rfl
   have cj:k+1<M:=cj
   generalize s.still=df at l4 c3 gW qw⊢
   refine sv rfl ?_
   simp (maxSteps:=2000000) only[↓ak,aj,↓reduceIte,reduceCtorEq,Nat.reduceEqDiff,Nat.reduceLeDiff,Nat.reduceSub,Nat.reduceAdd,Int.reduceToNat,Nat.reducePow,Int.reducePow,Int.reduceLE,Int.reduceLT,IntKind.bits,l4,c3,gW,qw,pg,cj]
   first|done|(exact .inl ⟨_,rfl⟩)|(simp;done)
  ·refine sv rfl ?_
   simp (maxSteps:=2000000) only[↓ak,aj,↓reduceIte,reduceCtorEq,Nat.reduceEqDiff,Nat.reduceLeDiff,Nat.reduceSub,Nat.reduceAdd,Int.reduceToNat,Nat.reducePow,Int.reducePow,Int.reduceLE,Int.reduceLT,IntKind.bits]
   first|done|(simp;done)
 ·clear h0 al aE
  rintro z s ⟨rfl,cj,h0,al,aE,cx,aU⟩
  refine kA _ rfl (h8 _ (fun e s ay=> ?_) (?_:bZ Γ _ (fun e s=>match e with| .normal=>s.af 0= .c6 L∧s.af 3= .d (.fn 156 [] [.ptr [.int .i64 w]])∧pg (aA w (k+1)) s|_=>False) s))
  ·cases e with
   |normal=>exact⟨⟨k+1,rfl,ay.1,ay.2.1,ay.2.2⟩,by show M - (k+1)<M - k;omega⟩
   |exit j=>exact ay.elim
   |ret=>exact ay.elim
  have ad:=(rq eA k).1
  have eR:=mq ob ad
  have eX:=mq ob (ll ad)
  obtain⟨cS,ca⟩:=key (dB o (aA w k).c) (ff eR (by omega) (by omega))
  obtain⟨g2,g1⟩:=key (dB o (cZ (aA w k).c)) (ff eX (by omega) (by omega))
  have ek:aA w (k+1)=⟨fl (dB o (aA w k).c) w,fl (dB o (cZ (aA w k).c)) w⟩:=by rw[bh];rfl
  rw[ek]
  generalize aA w k=p at*
  have pa:lW.pre [aQ o,aQ p.c]:=⟨o,p.c,rfl,ff ob (by omega) (by omega),ff ad (by omega) (by omega)⟩
  have jC:lW.res [aQ o,aQ p.c]=aQ (dB o p.c):=by simp only[lW,aQ,a7,dw]
  have iX:jw.pre [aQ p.c]:=⟨p.c,rfl,ff ad (by omega) (by omega)⟩
  have hh:jw.res [aQ p.c]=aQ (cZ p.c):=by simp only[jw,aQ,a7,dw]
  have ma:lW.pre [aQ o,aQ (cZ p.c)]:=⟨o,cZ p.c,rfl,ff ob (by omega) (by omega),ff (ll ad) (by omega) (by omega)⟩
  have oc:lW.res [aQ o,aQ (cZ p.c)]=aQ (dB o (cZ p.c)):=by simp only[lW,aQ,a7,dw]
  clear dQ key eR eX ek bh
  generalize dB o p.c=u at*
  generalize cZ p.c=v at*
  generalize dB o v=t at*
  generalize fl u w=x at*
  generalize fl t w=y at*
  unfold aQ a7 at pa jC iX hh ma oc ca g1
  simp (maxSteps:=2000000) only[↓ak,aj,↓reduceIte,reduceCtorEq,Nat.reduceEqDiff,Nat.reduceLeDiff,Nat.reduceSub,Nat.reduceAdd,Int.reduceToNat,Nat.reducePow,Int.reducePow,Int.reduceLE,Int.reduceLT,IntKind.bits,h0,al,aE,aU,B4,p1,bP,Ta,cS,ca,g2,g1,KE,pa,jC,ma,oc,vW,iX,hh,pg]
  first|done|((repeat' apply And.intro)<;>first|assumption|with_reducible rfl|omega|(simp only[aG];omega)|exact⟨_,rfl⟩|exact⟨_,_,_,rfl⟩|exact⟨_,_,_,_,_,_,rfl⟩)
theorem Rh (K k:Nat):ji .i64 ((K:Int).fdiv (2^k)) 1=((K / 2^k % 2:Nat):Int):=by
 rw[OD,show (2:Int)^k=((2^k:Nat):Int)from (Int.natCast_pow 2 k).symm,Int.fdiv_eq_ediv_of_nonneg _ (Int.natCast_nonneg _),←Int.natCast_ediv]
 omega
theorem OL (K Q w:Int) (k q:Nat) (p:db):k7 K Q w (k+1) q p=k7 K Q w k (q+1) (if (K.toNat / 2^(Q.toNat - q)) % 2=1 then mw p (aA w (q - 3)) w else p):=rfl
def Bj:Nat→Option kx:=fun f=>if f=155 then some ts else none
def qD (K Q q w:Int) (p:db) (s:St):Prop:=s.af 2= .box 2 0∧s.aw 2=some ⟨false,false,.cells [.d (.int .i64 K),.d (.int .i64 Q)]⟩∧s.af 3= .box 3 0∧s.aw 3=some ⟨false,false,.cells [.d (.int .i64 w)]⟩∧gx s∧gq 5 p s∧s.af 6= .box 6 0∧s.aw 6=some ⟨false,false,.cells [.d (.int .i64 q)]⟩
theorem aga (Γ:Env) (B4:Γ.has 151 oM) (agb:Γ.has 152 tr) (agc:Γ.has 153 pW) (ds:List D) (h:tp.pre ds):vm Γ Bj Ha Hb ds fun d=>d=tp.res ds:=by
 obtain⟨a,w,rfl,a2,cn,eA,g9⟩:=h
 have cq:tp.res [jB a,.int .i64 w]=dp (rest (b6 a) (a5 a) w):=rfl
 rw[cq]
 have zn:jB a=cl (b6 a) (a5 a):=rfl
 rw[zn]
 have bV:=Bi (a:=a) (by omega)
 generalize b6 a=K at*
 generalize a5 a=Q at*
 clear zn cq
 unfold vm Ha
 refine pA (fun s=>s.af 2= .box 2 0∧s.aw 2=some ⟨false,false,.cells [.d (.int .i64 K),.d (.int .i64 Q)]⟩∧s.af 3= .box 3 0∧s.aw 3=some ⟨false,false,.cells [.d (.int .i64 w)]⟩∧gx s) ?_ ?_
 ·show bZ Γ _ _ _
  simp (maxSteps:=2000000) only[↓ak,aj,↓reduceIte,reduceCtorEq,Nat.reduceEqDiff,Nat.reduceLeDiff,Nat.reduceSub,Nat.reduceAdd,Int.reduceToNat,Nat.reducePow,Int.reducePow,Int.reduceLE,Int.reduceLT,IntKind.bits,cl,gx]
 rintro s ⟨h2,aY,al,aW,aE,aU⟩
 have p1:oM.pre []:=rfl
 obtain⟨o,bh⟩:∃o,o=i1:=⟨_,rfl⟩
 have bP:oM.res []=aQ o:=by rw[bh];rfl
 unfold aQ a7 at bP
 refine pA (fun s=>s.af 2= .box 2 0∧s.aw 2=some ⟨false,false,.cells [.d (.int .i64 K),.d (.int .i64 Q)]⟩∧s.af 3= .box 3 0∧s.aw 3=some ⟨false,false,.cells [.d (.int .i64 w)]⟩∧gx s∧gq 5 p0 s) ?_ ?_
 ·show bZ Γ _ _ _
  have cF:p0=⟨o,⟨⟨false,0,0⟩,⟨false,0,0⟩⟩⟩:=by rw[bh];rfl
  rw[cF]
  simp (maxSteps:=2000000) only[↓ak,aj,↓reduceIte,reduceCtorEq,Nat.reduceEqDiff,Nat.reduceLeDiff,Nat.reduceSub,Nat.reduceAdd,Int.reduceToNat,Nat.reducePow,Int.reducePow,Int.reduceLE,Int.reduceLT,IntKind.bits,h2,aY,al,aW,aE,aU,gx,gq,B4,p1,bP,gf]
 clear h2 aY al aW aE aU
 rintro s ⟨h2,aY,al,aW,⟨aE,aU⟩,aI,a9⟩
 refine pA (qD K Q 3 w p0) ?_ ?_
 ·show bZ Γ _ _ _
  simp (maxSteps:=2000000) only[↓ak,aj,↓reduceIte,reduceCtorEq,Nat.reduceEqDiff,Nat.reduceLeDiff,Nat.reduceSub,Nat.reduceAdd,Int.reduceToNat,Nat.reducePow,Int.reducePow,Int.reduceLE,Int.reduceLT,IntKind.bits,h2,aY,al,aW,aE,aU,aI,a9,gx,gq,qD]
 clear h2 aY al aW aE aU aI a9 p1 bP bh
 rintro s ⟨h2,aY,al,aW,⟨aE,aU⟩,⟨aI,a9⟩,aM,a0⟩
 obtain⟨R,dF⟩:∃R,R=rest K Q w:=⟨_,rfl⟩
 obtain⟨n,aH⟩:∃n,n=((Q:Int) - 2).toNat:=⟨_,rfl⟩
 have tV:R=k7 K Q w n 3 p0:=by rw[dF,aH];rfl
 rw[←dF]
 refine pA (fun s=>gx s∧gq 5 R s) ?_ ?_
 ·refine pA (fun s=>s.af 11= .d (.fn 155 [] [.ptr [.int .i64 w]])∧qD K Q 3 w p0 s) ?_ ?_
  ·show bZ Γ _ _ _
   have hj:tr.pre [.int .i64 w]:=⟨w,rfl⟩
   have rc:tr.res [.int .i64 w]= .fn 155 [] [.ptr [.int .i64 w]]:=rfl
   simp (maxSteps:=2000000) only[↓ak,aj,↓reduceIte,reduceCtorEq,Nat.reduceEqDiff,Nat.reduceLeDiff,Nat.reduceSub,Nat.reduceAdd,Int.reduceToNat,Nat.reducePow,Int.reducePow,Int.reduceLE,Int.reduceLT,IntKind.bits,h2,aY,al,aW,aE,aU,aI,a9,aM,a0,gx,gq,qD,agb,hj,rc]
  clear h2 aY al aW aE aU aI a9 aM a0
  rintro s ⟨hO,h2,aY,al,aW,⟨aE,aU⟩,⟨aI,a9⟩,aM,a0⟩
  have jy:Bj 155=some ts:=rfl
  have x4:∀k,ts.seq [.ptr [.int .i64 w]] k=some [dp (aA w k)]:=fun k=>rfl
  simp only[g7,St.aT,hO,jy]
  refine⟨⟨w,rfl,eA,g9⟩,fun k s=>∃p:db,k≤n∧k7 K Q w (n - k) (k+3) p=R∧p.win (-((k:Int)*(2*w+16))) (1+10*k)∧qD K Q (k+3:Nat) w p s,20,by omega,⟨p0,by omega,tV.symm,?_,?_,?_,?_,?_,⟨?_,?_⟩,⟨?_,?_⟩,?_,?_⟩,?_,?_⟩
  ·refine HL (by omega) (by omega)
  ·simp only[St.only];rw[if_neg (by decide)];exact h2
  ·exact aY
  ·simp only[St.only];rw[if_neg (by decide)];exact al
  ·exact aW
  ·simp only[St.only];rw[if_neg (by decide)];exact aE
  ·exact aU
  ·simp only[St.only];rw[if_neg (by decide)];exact aI
  ·exact a9
  ·simp only[St.only];rw[if_neg (by decide)];exact aM
  ·exact a0
  ·clear hO h2 aY al aW aE aU aI a9 aM a0
   rintro k xs s ad jU ⟨p,rI,e7,kr,h2,aY,al,aW,⟨aE,aU⟩,⟨aI,a9⟩,aM,a0⟩
   rw[x4]at jU
   simp only[Option.some.injEq]at jU
   subst jU
   refine⟨rfl,?_⟩
   have lg:=rq eA k
   have ajw:(k:Int)*(2*w+16)≤12*(2*w+16):=Int.mul_le_mul_of_nonneg_right (by omega) (by omega)
   have agd:0≤(k:Int)*(2*w+16):=Int.mul_nonneg (by omega) (by omega)
   obtain⟨q,aZ⟩:∃q,q=aA w k:=⟨_,rfl⟩
   rw[←aZ]at lg⊢
   simp only[xT]
   have yQ:((s.put (some 12) (cX (dp q))).af 12)= .agg (y6 q):=rfl
   have a6:(s.put (some 12) (cX (dp q))).af 2= .box 2 0:=h2
   have cU:(s.put (some 12) (cX (dp q))).af 3= .box 3 0:=al
   have cx:(s.put (some 12) (cX (dp q))).af 4= .box 4 0:=aE
   have dx:(s.put (some 12) (cX (dp q))).af 5= .box 5 0:=aI
   have eJ:(s.put (some 12) (cX (dp q))).af 6= .box 6 0:=aM
   have f2:(s.put (some 12) (cX (dp q))).aw 2=_:=aY
   have f3:(s.put (some 12) (cX (dp q))).aw 3=_:=aW
   have f4:(s.put (some 12) (cX (dp q))).aw 4=_:=aU
   have f5:(s.put (some 12) (cX (dp q))).aw 5=_:=a9
   have f6:(s.put (some 12) (cX (dp q))).aw 6=_:=a0
   generalize s.put (some 12) (cX (dp q))=t at yQ a6 cU cx dx eJ f2 f3 f4 f5 f6⊢
   clear h2 aY al aW aE aU aI a9 aM a0 s
   refine ou (fun s=>qD K Q (k+3:Nat) w p s∧gq 7 q s) ?_ ?_
   ·simp (maxSteps:=2000000) only[↓ak,aj,↓reduceIte,reduceCtorEq,Nat.reduceEqDiff,Nat.reduceLeDiff,Nat.reduceSub,Nat.reduceAdd,Int.reduceToNat,Nat.reducePow,Int.reducePow,Int.reduceLE,Int.reduceLT,IntKind.bits,a6,cU,cx,dx,eJ,f2,f3,f4,f5,f6,yQ,y6,qD,gx,gq]
   clear a6 cU cx dx eJ f2 f3 f4 f5 f6 yQ t
   rintro s ⟨⟨h2,aY,al,aW,⟨aE,aU⟩,⟨aI,a9⟩,aM,a0⟩,a4,cz⟩
   show bZ Γ _ _ s
   by_cases wz:((k+3:Nat):Int)>(Q:Int)
   ·have cF:n - k=0:=by omega
    rw[cF]at e7
    have e7:p=R:=e7
    subst e7
    simp (maxSteps:=2000000) only[↓ak,aj,↓reduceIte,reduceCtorEq,Nat.reduceEqDiff,Nat.reduceLeDiff,Nat.reduceSub,Nat.reduceAdd,Int.reduceToNat,Nat.reducePow,Int.reducePow,Int.reduceLE,Int.reduceLT,IntKind.bits,h2,aY,al,aW,aE,aU,aI,a9,aM,a0,a4,cz,wz,gx,gq,AK,AL,List.contains_cons,List.contains_nil,Nat.reduceBEq,Nat.reduceBeqDiff,Bool.or_false,Bool.false_eq_true]
   ·have bp:k<n:=by omega
    have alW:¬((k:Int)+3>(Q:Int)):=by omega
    have es:(Q:Int) - ((k+3:Nat):Int)=((Q - (k+3):Nat):Int):=by omega
    have y7:Q - (k+3)≤64:=by omega
    have ar:=Rh K (Q - (k+3))
    have qm:((1:Int)==1)=true:=rfl
    have KG:((0:Int)==1)=false:=rfl
    have er:k7 K Q w (n - (k+1)) (k+1+3) (if (K / 2^(Q - (k+3))) % 2=1 then mw p q w else p)=R:=by
     rw[←e7,show n - k=n - (k+1)+1 by omega,OL,Int.toNat_natCast,Int.toNat_natCast,show k+3 - 3=k by omega,←aZ]
    rcases (by omega:K / 2^(Q - (k+3)) % 2=1∨K / 2^(Q - (k+3)) % 2=0)with ao|ao
    ·rw[ao]at ar
     rw[if_pos ao]at er
     have ar:ji .i64 ((K:Int).fdiv (2^(Q - (k+3)))) 1=1:=ar
     have Vr:pW.pre [dp p,dp q,.int .i64 w]:=⟨p,q,w,rfl,oD kr (by omega) (by omega),oD lg (by omega) (by omega),eA,by omega⟩
     have Vs:pW.res [dp p,dp q,.int .i64 w]=dp (mw p q w):=by simp only[pW,vb]
     have g6:=oD (Fh kr lg eA) (lo':= -(((k+1:Nat):Int)*(2*w+16))) (hi':=1+10*((k+1:Nat):Int)) (by rw[Int.natCast_add,Int.add_mul];omega) (by omega)
     generalize mw p q w=z at*
     unfold dp a7 at Vr Vs
     simp (maxSteps:=2000000) only[↓ak,aj,↓reduceIte,reduceCtorEq,Nat.reduceEqDiff,Nat.reduceLeDiff,Nat.reduceSub,Nat.reduceAdd,Int.reduceToNat,Nat.reducePow,Int.reducePow,Int.reduceLE,Int.reduceLT,IntKind.bits,h2,aY,al,aW,aE,aU,aI,a9,aM,a0,a4,cz,wz,es,y7,ar,qm,agc,Vr,Vs,gx,gq,qD,AK,AL,List.contains_cons,List.contains_nil,Nat.reduceBEq,Nat.reduceBeqDiff,Bool.or_false,Bool.false_eq_true]
     exact⟨by simp only[aG];omega,by omega,by simp only[aG];omega,⟨z,by omega,er,g6,rfl,by rw[show ((k+3:Nat):Int)+1=((k+1+3:Nat):Int)by omega]⟩,by omega⟩
    ·rw[ao]at ar
     rw[if_neg (by omega)]at er
     have ar:ji .i64 ((K:Int).fdiv (2^(Q - (k+3)))) 1=0:=ar
     have g6:=oD kr (lo':= -(((k+1:Nat):Int)*(2*w+16))) (hi':=1+10*((k+1:Nat):Int)) (by rw[Int.natCast_add,Int.add_mul];omega) (by omega)
     simp (maxSteps:=2000000) only[↓ak,aj,↓reduceIte,reduceCtorEq,Nat.reduceEqDiff,Nat.reduceLeDiff,Nat.reduceSub,Nat.reduceAdd,Int.reduceToNat,Nat.reducePow,Int.reducePow,Int.reduceLE,Int.reduceLT,IntKind.bits,h2,aY,al,aW,aE,aU,aI,a9,aM,a0,a4,cz,wz,es,y7,ar,KG,gx,gq,qD,AK,AL,List.contains_cons,List.contains_nil,Nat.reduceBEq,Nat.reduceBeqDiff,Bool.or_false,Bool.false_eq_true]
     exact⟨by simp only[aG];omega,by omega,by simp only[aG];omega,⟨p,by omega,er,g6,rfl,by rw[show ((k+3:Nat):Int)+1=((k+1+3:Nat):Int)by omega]⟩,by omega⟩
  ·rintro k s jU _
   rw[x4]at jU
   cases jU
 ·clear h2 aY al aW aE aU aI a9 aM a0
  rintro s ⟨⟨aE,aU⟩,aI,a9⟩
  show bZ Γ _ _ _
  simp (maxSteps:=2000000) only[↓ak,aj,↓reduceIte,reduceCtorEq,Nat.reduceEqDiff,Nat.reduceLeDiff,Nat.reduceSub,Nat.reduceAdd,Int.reduceToNat,Nat.reducePow,Int.reducePow,Int.reduceLE,Int.reduceLT,IntKind.bits,Hb,aE,aU,aI,a9,dp,a7]
def qn:bq where
 pre:=fun ds=>∃p:db,ds=[dp p]
 res:=fun ds=>match ds with
  |[p]=>aQ (m6 p).c
  |_=> .nilp
theorem ajx (Γ:Env) (ds:List D) (h:qn.pre ds):bH Γ JJ JK ds fun d=>d=qn.res ds:=by
 obtain⟨p,rfl⟩:=h
 have cq:qn.res [dp p]=aQ p.c:=by simp only[qn,vb]
 rw[cq]
 simp (maxSteps:=2000000) only[↓ak,aj,↓reduceIte,reduceCtorEq,Nat.reduceEqDiff,Nat.reduceLeDiff,Nat.reduceSub,Nat.reduceAdd,Int.reduceToNat,Nat.reducePow,Int.reducePow,Int.reduceLE,Int.reduceLT,IntKind.bits,JJ,JK,dp,aQ]
def qo:bq where
 pre:=fun ds=>∃p:db,ds=[dp p]
 res:=fun ds=>match ds with
  |[p]=>aQ (m6 p).s
  |_=> .nilp
theorem ajy (Γ:Env) (ds:List D) (h:qo.pre ds):bH Γ JR JS ds fun d=>d=qo.res ds:=by
 obtain⟨p,rfl⟩:=h
 have cq:qo.res [dp p]=aQ p.s:=by simp only[qo,vb]
 rw[cq]
 simp (maxSteps:=2000000) only[↓ak,aj,↓reduceIte,reduceCtorEq,Nat.reduceEqDiff,Nat.reduceLeDiff,Nat.reduceSub,Nat.reduceAdd,Int.reduceToNat,Nat.reducePow,Int.reducePow,Int.reduceLE,Int.reduceLT,IntKind.bits,JR,JS,dp,aQ]
end RV.Dr
namespace RR
theorem zZ (x:Rat):0≤x*x:=by
 by_cases h:0≤x
 ·exact Rat.mul_nonneg h h
 ·have:0≤(-x)*(-x):=Rat.mul_nonneg (by grind) (by grind)
  grind
theorem Fk {a x B e:Rat} (h1: -B<a) (h2:a<B) (al: -e<x) (aE:x<e): -(B*e)<a*x∧a*x<B*e:=by
 have p1:0<(B - a)*(e+x):=Rat.mul_pos (by grind) (by grind)
 have cS:0<(B+a)*(e - x):=Rat.mul_pos (by grind) (by grind)
 have g2:0<(B - a)*(e - x):=Rat.mul_pos (by grind) (by grind)
 have si:0<(B+a)*(e+x):=Rat.mul_pos (by grind) (by grind)
 constructor<;>grind
def fq (f:Nat→Rat):Prop:=∀ε:Rat,0<ε→∃N,∀m n,N≤m→N≤n→f m - f n<ε
def gM (f:Nat→Rat):Prop:=∀ε:Rat,0<ε→∃N,∀n,N≤n→-ε<f n∧f n<ε
theorem fq.bound {f:Nat→Rat} (h:fq f):∃B:Rat,0<B∧∃N,∀n,N≤n→-B<f n∧f n<B:=by
 obtain⟨N,bR⟩:=h 1 (by decide)
 have s:=zZ (f N)
 have s1:=zZ (f N - 1)
 have s2:=zZ (f N+1)
 refine⟨f N*f N+2,by grind,N,fun n aH=> ?_⟩
 have a:=bR n N aH (Nat.le_refl _)
 have b:=bR N n (Nat.le_refl _) aH
 constructor<;>grind
theorem gM.add {f g:Nat→Rat} (hf:gM f) (bb:gM g):gM fun n=>f n+g n:=fun ε h=>by
 obtain⟨N,bR⟩:=hf (ε / 2) (by grind)
 obtain⟨M,cj⟩:=bb (ε / 2) (by grind)
 refine⟨max N M,fun n aH=> ?_⟩
 have:=bR n (by omega)
 have:=cj n (by omega)
 constructor<;>grind
theorem gM.neg {f:Nat→Rat} (hf:gM f):gM fun n=> -f n:=fun ε h=>by
 obtain⟨N,bR⟩:=hf ε h
 refine⟨N,fun n aH=> ?_⟩
 have:=bR n aH
 constructor<;>grind
theorem gM.mul {f g:Nat→Rat} (hf:fq f) (bb:gM g):gM fun n=>f n*g n:=fun ε h=>by
 obtain⟨B,aN,N,bR⟩:=hf.bound
 obtain⟨M,cj⟩:=bb (ε / B) (by rw[Rat.div_def];exact Rat.mul_pos h (Rat.inv_pos.2 aN))
 refine⟨max N M,fun n aH=> ?_⟩
 have a:=bR n (by omega)
 have b:=cj n (by omega)
 have c:=Fk a.1 a.2 b.1 b.2
 have e:B*(ε / B)=ε:=by grind
 rw[e]at c
 exact c
theorem gM.eq {f g:Nat→Rat} (hf:gM f) (h:∀n,g n=f n):gM g:=by
 have:g=f:=funext h
 rw[this];exact hf
theorem fq.add {f g:Nat→Rat} (hf:fq f) (bb:fq g):fq fun n=>f n+g n:=fun ε h=>by
 obtain⟨N,bR⟩:=hf (ε / 2) (by grind)
 obtain⟨M,cj⟩:=bb (ε / 2) (by grind)
 refine⟨max N M,fun m n hm aH=> ?_⟩
 have:=bR m n (by omega) (by omega)
 have:=cj m n (by omega) (by omega)
 grind
theorem fq.neg {f:Nat→Rat} (hf:fq f):fq fun n=> -f n:=fun ε h=>by
 obtain⟨N,bR⟩:=hf ε h
 refine⟨N,fun m n hm aH=> ?_⟩
 have:=bR n m aH hm
 grind
theorem fq.mul {f g:Nat→Rat} (hf:fq f) (bb:fq g):fq fun n=>f n*g n:=fun ε h=>by
 obtain⟨B,aN,N,bR⟩:=hf.bound
 obtain⟨C,fE,M,cj⟩:=bb.bound
 obtain⟨akY,Vt⟩:=hf (ε / 2 / C) (by rw[Rat.div_def];exact Rat.mul_pos (by grind) (Rat.inv_pos.2 fE))
 obtain⟨iY,lY⟩:=bb (ε / 2 / B) (by rw[Rat.div_def];exact Rat.mul_pos (by grind) (Rat.inv_pos.2 aN))
 refine⟨max (max N M) (max akY iY),fun m n hm aH=> ?_⟩
 have a:=bR m (by omega)
 have b:=cj n (by omega)
 have c:=Vt m n (by omega) (by omega)
 have c':=Vt n m (by omega) (by omega)
 have d:=lY m n (by omega) (by omega)
 have k8:=lY n m (by omega) (by omega)
 have p:=(Fk a.1 a.2 (x:=g m - g n) (e:=ε / 2 / B) (by grind) (by grind)).2
 have q:=(Fk b.1 b.2 (x:=f m - f n) (e:=ε / 2 / C) (by grind) (by grind)).2
 have a1:B*(ε / 2 / B)=ε / 2:=by grind
 have a6:C*(ε / 2 / C)=ε / 2:=by grind
 grind
theorem fq.const (q:Rat):fq fun _=>q:=fun ε h=>⟨0,fun _ _ _ _=>by grind⟩
structure zo where
 f:Nat→Rat
 h:fq f
instance:Setoid zo where
 r a b:=gM fun n=>a.f n - b.f n
 iseqv:= {
  refl:=fun a ε h=>⟨0,fun n _=>by constructor<;>grind⟩
  symm:=fun h=>h.neg.eq fun n=>by grind
  trans:=fun h k=>(h.add k).eq fun n=>by grind }
def R:=Quotient (inferInstance:Setoid zo)
def R.of (f:Nat→Rat) (h:fq f):R:=Quotient.mk _ ⟨f,h⟩
theorem R.sound {f g:Nat→Rat} (hf:fq f) (bb:fq g) (h:gM fun n=>f n - g n):R.of f hf=R.of g bb:=Quotient.sound h
theorem R.exact {f g:Nat→Rat} {hf:fq f} {bb:fq g} (h:R.of f hf=R.of g bb):gM fun n=>f n - g n:=Quotient.exact h
theorem R.ex (x:R):∃f h,x=R.of f h:=by
 induction x using Quotient.ind with
 |_ a=>exact⟨a.f,a.h,rfl⟩
def R.add:R→R→R:=Quotient.lift₂ (fun a b=>R.of _ (a.h.add b.h)) fun a b c d h k=>R.sound _ _ ((gM.add h k).eq fun n=>by grind)
def R.mul:R→R→R:=Quotient.lift₂ (fun a b=>R.of _ (a.h.mul b.h)) fun a b c d h k=>R.sound _ _ (((gM.mul a.h k).add (gM.mul d.h h)).eq fun n=>by grind)
def R.neg:R→R:=Quotient.lift (fun a=>R.of _ a.h.neg) fun a b h=>R.sound _ _ ((gM.neg h).eq fun n=>by grind)
def R.rat (q:Rat):R:=R.of _ (fq.const q)
instance:Add R:=⟨R.add⟩
instance:Mul R:=⟨R.mul⟩
instance:Neg R:=⟨R.neg⟩
instance:Sub R:=⟨fun a b=>a+ -b⟩
theorem R.ext {f g:Nat→Rat} (hf:fq f) (bb:fq g) (h:∀n,f n=g n):R.of f hf=R.of g bb:=by
 have:f=g:=funext h
 subst this;rfl
def R.npow (x:R):Nat→R
 |0=>R.rat 1
 |n+1=>R.npow x n*x
@[reducible] def aed {C:Type→Type} {α:Type} (_:C α) (β:Type):Type:=C β
@[reducible] def adK {S:Type→Type} {C:(α:Type)→S α→(l:LE α)→LT α→@Std.IsPreorder α l→Prop} {α:Type} {s:S α} {l:LE α} {k:LT α} {p:Std.IsPreorder α} (_:C α s l k p) (β:Type) (df:S β) (o4:LE β) (dM:LT β) (c9:Std.IsPreorder β):Prop:=C β df o4 dM c9
instance:aed Dyadic.instCommRing R where
 natCast:=⟨fun n=>R.rat (n:Rat)⟩
 ofNat n:=⟨R.rat (n:Rat)⟩
 nsmul:=⟨fun n x=>R.rat (n:Rat)*x⟩
 npow:=⟨R.npow⟩
 intCast:=⟨fun n=>R.rat (n:Rat)⟩
 zsmul:=⟨fun n x=>R.rat (n:Rat)*x⟩
 add_zero x:=by obtain⟨f,hf,rfl⟩:=R.ex x;exact R.ext _ _ fun n=>by show f n+(0:Nat)=_;grind
 add_comm x y:=by obtain⟨f,hf,rfl⟩:=R.ex x;obtain⟨g,bb,rfl⟩:=R.ex y;exact R.ext _ _ fun n=>by grind
 add_assoc x y z:=by obtain⟨f,hf,rfl⟩:=R.ex x;obtain⟨g,bb,rfl⟩:=R.ex y;obtain⟨k,ad,rfl⟩:=R.ex z;exact R.ext _ _ fun n=>by grind
 mul_assoc x y z:=by obtain⟨f,hf,rfl⟩:=R.ex x;obtain⟨g,bb,rfl⟩:=R.ex y;obtain⟨k,ad,rfl⟩:=R.ex z;exact R.ext _ _ fun n=>by grind
 mul_comm x y:=by obtain⟨f,hf,rfl⟩:=R.ex x;obtain⟨g,bb,rfl⟩:=R.ex y;exact R.ext _ _ fun n=>by grind
 mul_one x:=by obtain⟨f,hf,rfl⟩:=R.ex x;exact R.ext _ _ fun n=>by show f n*(1:Nat)=_;grind
 one_mul x:=by obtain⟨f,hf,rfl⟩:=R.ex x;exact R.ext _ _ fun n=>by show (1:Nat)*f n=_;grind
 left_distrib x y z:=by obtain⟨f,hf,rfl⟩:=R.ex x;obtain⟨g,bb,rfl⟩:=R.ex y;obtain⟨k,ad,rfl⟩:=R.ex z;exact R.ext _ _ fun n=>by grind
 right_distrib x y z:=by obtain⟨f,hf,rfl⟩:=R.ex x;obtain⟨g,bb,rfl⟩:=R.ex y;obtain⟨k,ad,rfl⟩:=R.ex z;exact R.ext _ _ fun n=>by grind
 zero_mul x:=by obtain⟨f,hf,rfl⟩:=R.ex x;exact R.ext _ _ fun n=>by show (0:Nat)*f n=(0:Nat);grind
 mul_zero x:=by obtain⟨f,hf,rfl⟩:=R.ex x;exact R.ext _ _ fun n=>by show f n*(0:Nat)=(0:Nat);grind
 pow_zero x:=rfl
 pow_succ x n:=rfl
 ofNat_succ n:=R.ext _ _ fun _=>by show ((n+1:Nat):Rat)=(n:Rat)+((1:Nat):Rat);grind
 ofNat_eq_natCast n:=rfl
 nsmul_eq_natCast_mul n x:=rfl
 neg_add_cancel x:=by obtain⟨f,hf,rfl⟩:=R.ex x;exact R.ext _ _ fun n=>by show -f n+f n=(0:Nat);grind
 sub_eq_add_neg x y:=rfl
 neg_zsmul n x:=by obtain⟨f,hf,rfl⟩:=R.ex x;exact R.ext _ _ fun k=>by show ((-n:Int):Rat)*f k= -((n:Rat)*f k);grind
 zsmul_natCast_eq_nsmul n x:=by obtain⟨f,hf,rfl⟩:=R.ex x;exact R.ext _ _ fun k=>by show (((n:Nat):Int):Rat)*f k=(n:Rat)*f k;rw[Rat.intCast_natCast]
 intCast_ofNat n:=R.ext _ _ fun _=>Rat.intCast_natCast n
 intCast_neg n:=R.ext _ _ fun _=>by show ((-n:Int):Rat)= -(n:Rat);grind
def R.pos:R→Prop:=Quotient.lift (fun a=>∃ε:Rat,0<ε∧∃N,∀n,N≤n→ε<a.f n) fun a b h=>by
 have key:∀{a b:zo},gM (fun n=>a.f n - b.f n)→(∃ε:Rat,0<ε∧∃N,∀n,N≤n→ε<a.f n)→∃ε:Rat,0<ε∧∃N,∀n,N≤n→ε<b.f n:=by
  rintro a b h ⟨ε,he,N,bR⟩
  obtain⟨M,cj⟩:=h (ε / 2) (by grind)
  refine⟨ε / 2,by grind,max N M,fun n aH=> ?_⟩
  have:=bR n (by omega)
  have:=cj n (by omega)
  grind
 exact propext ⟨key h,key ((gM.neg h).eq fun n=>by grind)⟩
theorem ac1 {x y:R} (ah:x.pos) (hy:y.pos):(x+y).pos:=by
 obtain⟨f,hf,rfl⟩:=R.ex x
 obtain⟨g,bb,rfl⟩:=R.ex y
 obtain⟨a,a2,N,bR⟩:=ah
 obtain⟨b,ar,M,cj⟩:=hy
 refine⟨a+b,by grind,max N M,fun n aH=> ?_⟩
 have:a<f n:=bR n (by omega)
 have:b<g n:=cj n (by omega)
 show a+b<f n+g n
 grind
theorem xj {x y:R} (ah:x.pos) (hy:y.pos):(x*y).pos:=by
 obtain⟨f,hf,rfl⟩:=R.ex x
 obtain⟨g,bb,rfl⟩:=R.ex y
 obtain⟨a,a2,N,bR⟩:=ah
 obtain⟨b,ar,M,cj⟩:=hy
 refine⟨a*b,Rat.mul_pos a2 ar,max N M,fun n aH=> ?_⟩
 have h1:a<f n:=bR n (by omega)
 have h2:b<g n:=cj n (by omega)
 show a*b<f n*g n
 have p:=Rat.mul_pos (show 0<f n - a by grind) (show 0<g n by grind)
 have q:=Rat.mul_pos a2 (show 0<g n - b by grind)
 grind
theorem AO {x:R} (ah:x.pos) (hy:(-x).pos):False:=by
 obtain⟨f,hf,rfl⟩:=R.ex x
 obtain⟨a,a2,N,bR⟩:=ah
 obtain⟨b,ar,M,cj⟩:=hy
 have h1:a<f (max N M):=bR _ (by omega)
 have h2:b< -f (max N M):=cj _ (by omega)
 grind
theorem PN (x:R):x=0∨x.pos∨(-x).pos:=by
 obtain⟨f,hf,rfl⟩:=R.ex x
 by_cases h:gM f
 ·left
  exact R.sound hf (fq.const ((0:Nat):Rat)) (h.eq fun n=>by show f n - (0:Nat)=f n;grind)
 ·right
  unfold gM at h
  obtain⟨ε,h⟩:=Classical.not_forall.1 h
  obtain⟨he,h⟩:=Classical.not_imp.1 h
  obtain⟨N,bR⟩:=hf (ε / 2) (by grind)
  have h:=Classical.not_forall.1 (fun k=>h ⟨N,k⟩)
  obtain⟨m,h⟩:=h
  obtain⟨hm,h⟩:=Classical.not_imp.1 h
  by_cases c:f m<ε
  ·right
   refine⟨ε / 2,by grind,N,fun n aH=> ?_⟩
   have:=bR n m aH hm
   show ε / 2< -f n
   have:¬-ε<f m:=fun k=>h ⟨k,c⟩
   grind
  ·left
   refine⟨ε / 2,by grind,N,fun n aH=> ?_⟩
   have:=bR m n hm aH
   grind
instance:LT R:=⟨fun a b=>(b - a).pos⟩
instance:LE R:=⟨fun a b=>¬(a - b).pos⟩
theorem lt_def {a b:R} :a<b↔(b - a).pos:=Iff.rfl
theorem le_def {a b:R} :a≤b↔¬(a - b).pos:=Iff.rfl
theorem ZN:¬(0:R).pos:=fun h=>AO h ((show (-0:R)=0 by grind).symm▸h)
theorem PO:(1:R).pos:=⟨1 / 2,by grind,0,fun _ _=>by show (1 / 2:Rat)<((1:Nat):Rat);grind⟩
theorem oj {a b:R} (h:a≤b):a=b∨a<b:=by
 rcases PN (a - b)with k|k|k
 ·left;grind
 ·exact absurd k h
 ·right;rw[lt_def];have e:b - a= -(a - b):=by grind
  rw[e];exact k
instance:Std.IsLinearOrder R where
 le_refl a:=by rw[le_def];have e:a - a=0:=by grind
               rw[e];exact ZN
 le_trans a b c h k:=by
  rw[le_def];intro p
  rcases oj h with rfl|dT
  ·exact k p
  ·rcases oj k with rfl|dM
   ·exact h p
   ·refine AO (ac1 dT dM) ?_
    have e: -(b - a+(c - b))=a - c:=by grind
    rw[e];exact p
 le_antisymm a b h k:=by
  rcases oj h with rfl|dT
  ·rfl
  ·exact absurd dT k
 le_total a b:=by
  by_cases h:(a - b).pos
  ·right;intro k;refine AO h ?_
   have e: -(a - b)=b - a:=by grind
   rw[e];exact k
  ·left;exact h
instance:Std.LawfulOrderLT R where
 lt_iff a b:=by
  constructor
  ·intro h
   refine⟨fun k=>AO h (by have e: -(b - a)=a - b:=by grind
                          rw[e];exact k),fun k=>k h⟩
  ·rintro⟨h,k⟩
   exact Classical.not_not.1 k
instance:adK Dyadic.instOrderedRing R (by infer_instance) (by infer_instance) (by infer_instance) (by infer_instance)where
 add_le_left_iff {a b} c:=by
  rw[le_def,le_def,show a+c - (b+c)=a - b by grind]
 zero_lt_one:=by rw[lt_def,show (1:R) - 0=1 by grind];exact PO
 mul_lt_mul_of_pos_left {a b c} h k:=by
  rw[lt_def]at*
  rw[show c*b - c*a=c*(b - a)by grind]
  exact xj (by rw[show c - 0=c by grind]at k;exact k) h
 mul_lt_mul_of_pos_right {a b c} h k:=by
  rw[lt_def]at*
  rw[show b*c - a*c=c*(b - a)by grind]
  exact xj (by rw[show c - 0=c by grind]at k;exact k) h
theorem abx {q δ:Rat} (aZ:0≤q) (vZ:0<δ):∃y,0≤y∧y*y≤q∧q<(y+δ)*(y+δ):=by
 have aC:0<δ*δ:=Rat.mul_pos vZ vZ
 obtain⟨z,bg⟩:∃z,z=q / (δ*δ):=⟨_,rfl⟩
 have tA:0≤z:=by rw[bg,Rat.div_def];exact Rat.mul_nonneg aZ (Rat.le_of_lt (Rat.inv_pos.2 aC))
 have alX:z*(δ*δ)=q:=by grind
 have f0:0≤z.floor:=Rat.le_floor_iff.2 (by exact_mod_cast tA)
 obtain⟨a,a2⟩:∃a:Nat,z.floor=a:=⟨z.floor.toNat,by omega⟩
 have f1:=Rat.floor_le z
 have f2:=Rat.lt_floor_add_one z
 rw[a2]at f1 f2
 have s:=RV.jG a
 obtain⟨r,aq⟩:∃r,r=RV.aX a:=⟨_,rfl⟩
 rw[←aq]at s
 have s1:(r:Rat)*r≤(a:Rat):=by exact_mod_cast s.1
 have s2:(a:Rat)+1≤((r:Rat)+1)*(r+1):=by exact_mod_cast s.2
 have f1:(a:Rat)≤z:=by exact_mod_cast f1
 have f2:z<(a:Rat)+1:=by exact_mod_cast f2
 have l5:(0:Rat)≤r:=by exact_mod_cast Nat.zero_le r
 refine⟨r*δ,Rat.mul_nonneg l5 (Rat.le_of_lt vZ),?_,?_⟩
 ·have:=Rat.mul_nonneg (show 0≤z - r*r by grind) (Rat.le_of_lt aC)
  grind
 ·have:=Rat.mul_pos (show 0<((r:Rat)+1)*(r+1) - z by grind) aC
  grind
def dl (n:Nat):Rat:=1 / (n+1)
theorem FL (n:Nat):0<dl n:=by
 have:(0:Rat)≤n:=by exact_mod_cast Nat.zero_le n
 unfold dl
 rw[Rat.div_def]
 exact Rat.mul_pos (by grind) (Rat.inv_pos.2 (by grind))
theorem OM {ε:Rat} (h:0<ε):∃N,∀n,N≤n→dl n<ε:=by
 refine⟨(1 / ε).floor.toNat+1,fun n aH=> ?_⟩
 have f2:=Rat.lt_floor_add_one (1 / ε)
 have rA:(1 / ε).floor+1≤(n:Int):=by omega
 have h1:1 / ε<(n:Rat):=by
  refine Std.lt_of_lt_of_le f2 ?_
  have:(((1 / ε).floor+1:Int):Rat)≤((n:Int):Rat):=by exact_mod_cast rA
  rwa [Rat.intCast_natCast]at this
 have dj:(0:Rat)≤n:=by exact_mod_cast Nat.zero_le n
 have p:=FL n
 have e:dl n*(n+1)=1:=by unfold dl;grind
 have a6:1 / ε*ε=1:=by grind
 have q:=Rat.mul_pos (show 0<(n:Rat)+1 - 1 / ε by grind) (Rat.mul_pos h p)
 have cU:((n:Rat)+1 - 1 / ε)*(ε*dl n)=ε - dl n:=by grind
 rw[cU]at q
 grind
noncomputable def rt (q δ:Rat):Rat:=Classical.epsilon fun y=>0≤y∧(0<δ→y*y≤(if 0≤q then q else 0)∧(if 0≤q then q else 0)<(y+δ)*(y+δ))
theorem ac2 (q δ:Rat) (vZ:0<δ):0≤rt q δ∧rt q δ*rt q δ≤(if 0≤q then q else 0)∧(if 0≤q then q else 0)<(rt q δ+δ)*(rt q δ+δ):=by
 have:∃y,0≤y∧(0<δ→y*y≤(if 0≤q then q else 0)∧(if 0≤q then q else 0)<(y+δ)*(y+δ)):=by
  obtain⟨y,h1,h2⟩:=abx (q:=if 0≤q then q else 0) (by split<;>grind) vZ
  exact⟨y,h1,fun _=>h2⟩
 have:=Classical.epsilon_spec this
 exact⟨this.1,this.2 vZ⟩
theorem adL {y:Nat→Rat} (h0:∀n,0≤y n) (h:fq fun n=>y n*y n):fq y:=fun ε he=>by
 obtain⟨N,bR⟩:=h (ε*ε) (Rat.mul_pos he he)
 refine⟨N,fun m n hm aH=> ?_⟩
 have a:=bR m n hm aH
 have b:=h0 m
 have c:=h0 n
 refine Rat.not_le.1 fun k=> ?_
 have p:=Rat.mul_nonneg (show 0≤y m - y n - ε by grind) (show 0≤y m - y n+ε by grind)
 have q:=Rat.mul_nonneg (show 0≤y m - y n by grind) c
 grind
theorem aee {f:Nat→Rat} {hf:fq f} (h:0≤R.of f hf) {ε:Rat} (he:0<ε):∃N,∀n,N≤n→-ε<f n:=by
 rcases oj h with k|k
 ·have:=R.exact (hf:=fq.const ((0:Nat):Rat)) k
  obtain⟨N,bR⟩:=this ε he
  refine⟨N,fun n aH=> ?_⟩
  have:=(bR n aH).2
  have e:((0:Nat):Rat)=0:=rfl
  grind
 ·rw[lt_def,show R.of f hf - 0=R.of f hf by grind]at k
  obtain⟨a,a2,N,bR⟩:=k
  refine⟨N,fun n aH=> ?_⟩
  have:a<f n:=bR n aH
  grind
theorem ac3 {B ε Lp δ q y:Rat} (s1:0≤y) (s2:y*y≤if 0≤q then q else 0) (kv:(if 0≤q then q else 0)<(y+δ)*(y+δ)) (a: -B<q∧q<B) (b: -ε<q) (aN:0<B) (c:δ<Lp) (d:δ<1) (p:0<δ) (he:0<ε)
 (Y1:Lp*(2*(B+2))=ε): -ε<y*y - q∧y*y - q<ε:=by
 by_cases h:0≤q
 ·rw[if_pos h]at s2 kv
  have amu:y≤B+1:=by
   refine Rat.not_lt.1 fun k=> ?_
   have:=Rat.mul_pos (show 0<y - (B+1)by grind) (show 0<y+(B+1)by grind)
   have:=Rat.mul_pos aN aN
   grind
  have gw:=Rat.mul_nonneg (show 0≤B+1 - y by grind) (Rat.le_of_lt p)
  have hG:=Rat.mul_pos (show 0<1 - δ by grind) p
  have oa:=Rat.mul_pos (show 0<Lp - δ by grind) (show 0<2*(B+2)by grind)
  constructor<;>grind
 ·rw[if_neg h]at s2 kv
  have:=zZ y
  constructor<;>grind
theorem ac4 (x:R) (ah:0≤x):∃y:R,0≤y∧y*y=x:=by
 obtain⟨f,hf,rfl⟩:=R.ex x
 have sp:=fun n=>ac2 (f n) (dl n) (FL n)
 have key:gM fun n=>rt (f n) (dl n)*rt (f n) (dl n) - f n:=fun ε he=>by
  obtain⟨B,aN,N,bR⟩:=hf.bound
  obtain⟨M,cj⟩:=aee ah he
  have ao:0<ε / (2*(B+2)):=by rw[Rat.div_def];exact Rat.mul_pos he (Rat.inv_pos.2 (by grind))
  obtain⟨K,bV⟩:=OM ao
  obtain⟨ei,ajz⟩:=OM (show (0:Rat)<1 by grind)
  refine⟨max (max N M) (max K ei),fun n aH=> ?_⟩
  obtain⟨s1,s2,kv⟩:=sp n
  have a:=bR n (by omega)
  have b:=cj n (by omega)
  have c:=bV n (by omega)
  have d:=ajz n (by omega)
  have p:=FL n
  exact ac3 s1 s2 kv a b aN c d p he (by grind)
 have ao:fq fun n=>rt (f n) (dl n)*rt (f n) (dl n):=by
  have e:(fun n=>rt (f n) (dl n)*rt (f n) (dl n))=fun n=>f n+(rt (f n) (dl n)*rt (f n) (dl n) - f n):=funext fun n=>by grind
  rw[e]
  refine hf.add fun ε he=> ?_
  obtain⟨N,bR⟩:=key (ε / 2) (by grind)
  refine⟨N,fun m n hm aH=> ?_⟩
  have:=bR m hm
  have:=bR n aH
  grind
 have hy:=adL (fun n=>(sp n).1) ao
 refine⟨R.of _ hy,?_,R.sound _ hf key⟩
 rw[le_def]
 rintro⟨a,a2,N,bR⟩
 have h1:a<((0:Nat):Rat)+ -rt (f N) (dl N):=bR N (Nat.le_refl _)
 have h2:=(sp N).1
 have e:((0:Nat):Rat)=0:=rfl
 grind
end RR
namespace RR
instance:Inhabited R:=⟨0⟩
noncomputable def iy (x:R):R:=Classical.epsilon fun y=>0≤y∧y*y=x
theorem kE {x:R} (h:0≤x):0≤iy x∧iy x*iy x=x:=Classical.epsilon_spec (ac4 x h)
theorem Em (x:R):0≤x*x:=by
 rcases PN x with h|h|h
 ·rw[h];grind
 ·have:=xj h h
  have:(0:R)<x*x:=by rw[lt_def,show x*x - 0=x*x by grind];exact this
  grind
 ·have:=xj h h
  have:(0:R)<x*x:=by rw[lt_def,show x*x - 0= -x* -x by grind];exact this
  grind
theorem px {x y:R} (ah:0<x) (hy:0<y):0<x*y:=by
 rw[lt_def,show x*y - 0=(x - 0)*(y - 0)by grind]
 exact xj ah hy
theorem cb {x y:R} (ah:0≤x) (hy:0≤y):0≤x*y:=by
 rcases oj ah with h|h
 ·rw[←h];grind
 ·rcases oj hy with k|k
  ·rw[←k];grind
  ·have:=px h k
   grind
theorem Ri {a b:R} (a2:0≤a) (ar:0≤b) (h:a*a=b*b):a=b:=by
 rcases Std.le_total (a:=a) (b:=b)with k|k
 ·rcases oj k with e|e
  ·exact e
  ·have:=px (show 0<b - a by grind) (show 0<b+a by grind)
   grind
 ·rcases oj k with e|e
  ·exact e.symm
  ·have:=px (show 0<a - b by grind) (show 0<b+a by grind)
   grind
theorem fz {a b:R} (ar:0≤b) (h:a*a≤b*b):a≤b:=by
 rcases Std.le_total (a:=a) (b:=b)with k|k
 ·exact k
 ·rcases oj k with e|e
  ·rw[e];grind
  ·have:=px (show 0<a - b by grind) (show 0<a+b by grind)
   grind
def hf:R:=R.rat (1 / 2)
theorem ks:hf+hf=1:=R.ext _ _ fun _=>by show (1 / 2:Rat)+1 / 2=((1:Nat):Rat);grind
theorem l1:0<hf:=by
 have:=ks
 have:(0:R)<1:=PO|>fun h=>by rw[lt_def,show (1:R) - 0=1 by grind];exact h
 grind
noncomputable def ao:Nat→R
 |0=>iy hf
 |k+1=>iy (hf*(1+ao k))
noncomputable def ay:Nat→R
 |0=>iy hf
 |k+1=>iy (hf*(1 - ao k))
theorem Bk:∀k,0≤ao k∧ao k≤1∧0≤ay k∧ao k*ao k+ay k*ay k=1:=by
 have one:∀{c s:R},0≤c→c*c+s*s=1→c≤1:=fun {c s} h0 h=>by
  refine fz (by have:=l1;have:=ks;grind) ?_
  have:=Em s
  grind
 intro k
 induction k with
 |zero=>
  have r:=kE (x:=hf) (by have:=l1;grind)
  have e:ao 0*ao 0+ay 0*ay 0=1:=by unfold ao ay;rw[r.2];exact ks
  exact⟨r.1,one r.1 e,r.1,e⟩
 |succ k cm=>
  obtain⟨h1,h2,al,aE⟩:=cm
  have z:=l1
  have r:=kE (x:=hf*(1+ao k)) (cb (by grind) (by have:=ks;grind))
  have t:=kE (x:=hf*(1 - ao k)) (cb (by grind) (by grind))
  have e:ao (k+1)*ao (k+1)+ay (k+1)*ay (k+1)=1:=by
   unfold ao ay
   rw[r.2,t.2]
   have:=ks
   grind
  exact⟨r.1,one r.1 e,t.1,e⟩
theorem Sd (k:Nat):ao k=ao (k+1)*ao (k+1) - ay (k+1)*ay (k+1)∧ay k=ao (k+1)*ay (k+1)+ay (k+1)*ao (k+1):=by
 obtain⟨h1,h2,al,aE⟩:=Bk k
 have z:=l1
 have gY:=ks
 have r:=kE (x:=hf*(1+ao k)) (cb (by grind) (by grind))
 have t:=kE (x:=hf*(1 - ao k)) (cb (by grind) (by grind))
 have wy:ao (k+1)*ao (k+1)=hf*(1+ao k):=r.2
 have Dn:ay (k+1)*ay (k+1)=hf*(1 - ao k):=t.2
 have sj:0≤ao (k+1):=r.1
 have pt:0≤ay (k+1):=t.1
 constructor
 ·rw[wy,Dn];grind
 ·have q:=cb sj pt
  refine Ri al (by grind) ?_
  have e:(ao (k+1)*ay (k+1)+ay (k+1)*ao (k+1))*(ao (k+1)*ay (k+1)+ay (k+1)*ao (k+1))=4*((ao (k+1)*ao (k+1))*(ay (k+1)*ay (k+1))):=by grind
  rw[e,wy,Dn]
  have a6:(hf+hf)*(hf+hf)=1:=by rw[ks];grind
  have cU:4*(hf*(1+ao k)*(hf*(1 - ao k)))=((hf+hf)*(hf+hf))*(1 - ao k*ao k):=by grind
  rw[cU,a6]
  grind
structure bA where
 cM:R
 dh:R
theorem bA.ext' {a b:bA} (h:a.cM=b.cM) (k:a.dh=b.dh):a=b:=by cases a;cases b;simp only at h k;subst h k;rfl
def bA.mul (a b:bA):bA:=⟨a.cM*b.cM - a.dh*b.dh,a.cM*b.dh+a.dh*b.cM⟩
def bA.x7 (a:bA):bA:=⟨a.cM,-a.dh⟩
def bA.one:bA:=⟨1,0⟩
def bA.I:bA:=⟨0,1⟩
theorem bA.assoc (a b c:bA):(a.mul b).mul c=a.mul (b.mul c):=ext' (by simp only[mul];grind) (by simp only[mul];grind)
theorem bA.comm (a b:bA):a.mul b=b.mul a:=ext' (by simp only[mul];grind) (by simp only[mul];grind)
theorem bA.mul_one (a:bA):a.mul one=a:=ext' (by simp only[mul,one];grind) (by simp only[mul,one];grind)
theorem bA.one_mul (a:bA):one.mul a=a:=by rw[comm,mul_one]
def bA.hE (a:bA):R:=a.cM*a.cM+a.dh*a.dh
theorem bA.Fl (a b:bA):(a.mul b).hE=a.hE*b.hE:=by simp only[hE,mul];grind
theorem bA.ach {a:bA} (h:a.hE=1):a.mul a.x7=one:=ext' (by simp only[mul,x7,one];unfold hE at h;grind) (by simp only[mul,x7,one];grind)
def bA.pow (a:bA):Nat→bA
 |0=>one
 |n+1=>(a.pow n).mul a
theorem bA.pow_add (a:bA) (m:Nat):∀n,a.pow (m+n)=(a.pow m).mul (a.pow n)
 |0=>(mul_one _).symm
 |n+1=>by show (a.pow (m+n)).mul a=_;rw[pow_add a m n,assoc];rfl
theorem bA.pow_mul (a:bA) (m:Nat):∀n,a.pow (m*n)=(a.pow m).pow n
 |0=>rfl
 |n+1=>by rw[Nat.mul_succ,pow_add,pow_mul a m n];rfl
theorem bA.AP:one.hE=1:=by simp only[hE,one];grind
theorem bA.PQ {a:bA} (h:a.hE=1):∀n,(a.pow n).hE=1
 |0=>AP
 |n+1=>by show ((a.pow n).mul a).hE=1;rw[Fl,PQ h n,h];grind
noncomputable def un:Nat→bA
 |0=>bA.one
 |1=>⟨-1,0⟩
 |2=>bA.I
 |q+3=>⟨ao q,ay q⟩
theorem aef:∀q,(un (q+1)).mul (un (q+1))=un q
 |0=>bA.ext' (by simp only[un,bA.mul,bA.one];grind) (by simp only[un,bA.mul,bA.one];grind)
 |1=>bA.ext' (by simp only[un,bA.mul,bA.I];grind) (by simp only[un,bA.mul,bA.I];grind)
 |2=>by
  have r:=kE (x:=hf) (by have:=l1;grind)
  have e:=r.2
  have:=ks
  exact bA.ext' (by simp only[un,bA.mul,bA.I,ao,ay];grind) (by simp only[un,bA.mul,bA.I,ao,ay];grind)
 |q+3=>bA.ext' (Sd q).1.symm (Sd q).2.symm
theorem xy:∀q,(un q).hE=1
 |0=>bA.AP
 |1=>by simp only[un,bA.hE];grind
 |2=>by simp only[un,bA.hE,bA.I];grind
 |q+3=>(Bk q).2.2.2
theorem FM (q:Nat):∀j,(un (q+j)).pow (2^j)=un q
 |0=>bA.one_mul _
 |j+1=>by
  have e:2^(j+1)=2*2^j:=by rw[Nat.pow_succ];omega
  rw[e,bA.pow_mul]
  have:(un (q+(j+1))).pow 2=un (q+j):=by
   show ((bA.one.mul _).mul _)=_
   rw[bA.one_mul];exact aef (q+j)
  rw[this,FM q j]
noncomputable def pt (a:Nat):bA:=(un 60).pow a
theorem Rj (a b:Nat):pt (a+b)=(pt a).mul (pt b):=bA.pow_add ..
theorem adM (a:Nat):(pt a).hE=1:=bA.PQ (xy 60) a
theorem s3 {q:Nat} (h:q≤60) (k:Nat):pt (k*2^(60 - q))=(un q).pow k:=by
 unfold pt
 have e:60=q+(60 - q):=by omega
 rw[Nat.mul_comm,bA.pow_mul]
 have:=FM q (60 - q)
 rw[←e]at this
 rw[this]
theorem PR:pt 0=bA.one:=rfl
theorem PS (k r:Nat):pt (k*288230376151711744+r)=(bA.I.pow k).mul (pt r):=by
 rw[Rj]
 congr 1
 have:=s3 (q:=2) (by omega) k
 rw[show 2^(60 - 2)=288230376151711744 by decide]at this
 exact this
theorem adN {k r a:Nat} (h:a+r=k*288230376151711744):pt a=(bA.I.pow k).mul (pt r).x7:=by
 have e:(pt a).mul (pt r)=bA.I.pow k:=by
  rw[←Rj,h,←Nat.add_zero (k*288230376151711744),PS,PR,bA.mul_one]
 rw[←e,bA.assoc,bA.ach (adM r),bA.mul_one]
end RR
namespace RV
open RR
def hI (d:a3):Rat:=(dn d.neg d.m:Int)*(2:Rat)^d.e
theorem xk (a b:Int):(2:Rat)^(a+b)=2^a*2^b:=Rat.zpow_add (by decide) a b
theorem two_pos (a:Int):(0:Rat)<2^a:=Rat.zpow_pos (by decide)
theorem Fm (n:Nat):(2:Rat)^(n:Int)=((2^n:Int):Rat):=by
 rw[Rat.zpow_natCast,Rat.intCast_pow];rfl
theorem im {E:Int} {d:a3} (l:d.m≠0→E≤d.e):hI d=(d.V E:Rat)*2^E:=by
 unfold hI
 by_cases h0:d.m=0
 ·rw[jd h0,h0]
  have:dn d.neg 0=0:=by cases d.neg<;>rfl
  rw[this]
  show (0:Rat)*_=(0:Rat)*_
  grind
 ·have h:=l h0
  unfold a3.V
  rw[Rat.intCast_mul,←Fm,Rat.mul_assoc,←xk]
  congr 2
  omega
theorem ac5 {d:a3} (h:d.m=0):hI d=0:=by
 rw[im (E:=0) (fun k=>absurd h k),jd h]
 show (0:Rat)*_=_
 grind
theorem adO (a b:a3):hI (dR a b)=hI a+hI b:=by
 have ck:a.m≠0→min a.e b.e≤a.e:=fun _=>by omega
 have da:b.m≠0→min a.e b.e≤b.e:=fun _=>by omega
 rw[im ck,im da,im (Fc ck da),F0 ck da,Rat.intCast_add]
 grind
theorem ac6 (a:a3):hI (dI a)= -hI a:=by
 have ck:a.m≠0→a.e≤a.e:=fun _=>by omega
 rw[im ck,im (d:=dI a) (E:=a.e) ck,Q4,Rat.intCast_neg]
 grind
theorem adP (a b:a3):(cH a b).m≠0→a.e+b.e≤(cH a b).e:=j9 (Int.le_refl _)
theorem adQ (a b:a3):hI (cH a b)=hI a*hI b:=by
 rw[im (adP a b),ad8 (fun _=>Int.le_refl _) (fun _=>Int.le_refl _),im (E:=a.e) (fun _=>Int.le_refl _),im (E:=b.e) (fun _=>Int.le_refl _),Rat.intCast_mul,xk]
 grind
theorem aci (a:a3) (k:Int):hI (fx a k)=hI a*2^k:=by
 have l:(fx a k).m≠0→a.e+k≤(fx a k).e:=j9 (Int.le_refl _)
 rw[im l,acR k (fun _=>Int.le_refl _),im (E:=a.e) (fun _=>Int.le_refl _),xk]
 grind
theorem aeg {a b:a3} :hp a b≤0↔hI a≤hI b:=by
 have ck:a.m≠0→min a.e b.e≤a.e:=fun _=>by omega
 have da:b.m≠0→min a.e b.e≤b.e:=fun _=>by omega
 rw[adC ck da,im ck,im da]
 have p:=two_pos (min a.e b.e)
 generalize (2:Rat)^min a.e b.e=t at p
 constructor
 ·intro h
  exact Rat.mul_le_mul_of_nonneg_right (Rat.intCast_le_intCast.2 h) (Rat.le_of_lt p)
 ·intro h
  exact Rat.intCast_le_intCast.1 (Rat.le_of_mul_le_mul_right h p)
theorem aeh {a b:a3} :hp a b<0↔hI a<hI b:=by
 have ck:a.m≠0→min a.e b.e≤a.e:=fun _=>by omega
 have da:b.m≠0→min a.e b.e≤b.e:=fun _=>by omega
 rw[adD ck da,im ck,im da]
 have p:=two_pos (min a.e b.e)
 generalize (2:Rat)^min a.e b.e=t at p
 constructor
 ·intro h
  exact Rat.mul_lt_mul_of_pos_right (Rat.intCast_lt_intCast.2 h) p
 ·intro h
  exact Rat.intCast_lt_intCast.1 (Rat.lt_of_mul_lt_mul_right h (Rat.le_of_lt p))
theorem adR {a b:a3} (a2:a.ok) (ar:b.ok) (h:hI a=hI b):a=b:=by
 have ck:a.m≠0→min a.e b.e≤a.e:=fun _=>by omega
 have da:b.m≠0→min a.e b.e≤b.e:=fun _=>by omega
 refine ad7 a2 ar ck da ?_
 rw[im ck,im da]at h
 have p:=two_pos (min a.e b.e)
 generalize (2:Rat)^min a.e b.e=t at p h
 exact Int.le_antisymm (Rat.intCast_le_intCast.1 (Rat.le_of_mul_le_mul_right (by rw[h];exact Rat.le_refl) p)) (Rat.intCast_le_intCast.1 (Rat.le_of_mul_le_mul_right (by rw[h];exact Rat.le_refl) p))
theorem Me {a:a3} :gD a<0↔hI a<0:=by
 rw[im (E:=a.e) (fun _=>Int.le_refl _),Q3 (E:=a.e),Int.sign_neg_iff]
 have p:=two_pos a.e
 generalize (2:Rat)^a.e=t at p
 constructor
 ·intro h
  have:=Rat.mul_lt_mul_of_pos_right (Rat.intCast_lt_intCast.2 h) p
  simpa using this
 ·intro h
  refine Rat.intCast_lt_intCast.1 (Rat.lt_of_mul_lt_mul_right (c:=t) ?_ (Rat.le_of_lt p))
  show _<(0:Rat)*t
  grind
end RV
namespace RR
theorem Fo (p q:Rat):R.rat (p+q)=R.rat p+R.rat q:=R.ext _ _ fun _=>rfl
theorem xl (p q:Rat):R.rat (p*q)=R.rat p*R.rat q:=R.ext _ _ fun _=>rfl
theorem PT (p:Rat):R.rat (-p)= -R.rat p:=R.ext _ _ fun _=>rfl
theorem acj:R.rat 0=0:=rfl
theorem ac7:R.rat 1=1:=rfl
theorem u2 {p q:Rat} :R.rat p<R.rat q↔p<q:=by
 rw[lt_def]
 constructor
 ·rintro⟨a,a2,N,bR⟩
  have:a<q+ -p:=bR N (Nat.le_refl _)
  grind
 ·intro h
  exact⟨(q - p) / 2,by grind,0,fun n _=>by show (q - p) / 2<q+ -p;grind⟩
theorem xA {p q:Rat} :R.rat p≤R.rat q↔p≤q:=by
 constructor
 ·intro h
  refine Rat.not_lt.1 fun k=> ?_
  have:=u2.2 k
  grind
 ·intro h
  refine Classical.not_not.1 fun k=> ?_
  have:R.rat q<R.rat p:=by
   rcases Std.le_total (a:=R.rat p) (b:=R.rat q)with e|e
   ·exact absurd e k
   ·rcases oj e with e|e
    ·rw[e]at k;exact absurd (by grind) k
    ·exact e
  have:=u2.1 this
  grind
def aJ (e:Int):R:=R.rat ((2:Rat)^e)
theorem j8 (a b:Int):aJ (a+b)=aJ a*aJ b:=by unfold aJ;rw[RV.xk,xl]
theorem e4 (a:Int):0<aJ a:=by unfold aJ;rw[←acj,u2];exact RV.two_pos a
theorem Fp:aJ 0=1:=rfl
theorem nD {a b:Int} (h:a≤b):aJ a≤aJ b:=by
 unfold aJ
 rw[xA]
 have e:b=a+((b - a).toNat:Nat):=by omega
 rw[e,RV.xk,RV.Fm]
 have p:=RV.two_pos a
 have q:(1:Rat)≤((2^(b - a).toNat:Int):Rat):=by
  have:(1:Int)≤2^(b - a).toNat:=by
   have:=Nat.one_le_two_pow (n:=(b - a).toNat)
   exact_mod_cast this
  exact_mod_cast this
 have:=Rat.mul_nonneg (Rat.le_of_lt p) (show 0≤((2^(b - a).toNat:Int):Rat) - 1 by grind)
 grind
theorem jI (a:Int):aJ (a+1)=aJ a+aJ a:=by
 rw[j8]
 have:aJ 1=1+1:=by unfold aJ;rw[←ac7,←Fo];congr 1;decide+kernel
 rw[this];grind
end RR
namespace RV.Dr
open RV RR
set_option linter.unusedSimpArgs false
set_option linter.unusedVariables false
def bt (d:a3):R:=R.rat (hI d)
theorem A6 (a b:a3):bt (dR a b)=bt a+bt b:=by unfold bt;rw[adO,Fo]
theorem Rk (a b:a3):bt (cH a b)=bt a*bt b:=by unfold bt;rw[adQ,xl]
theorem xm (a:a3):bt (dI a)= -bt a:=by unfold bt;rw[ac6,PT]
theorem w8 (a:a3) (k:Int):bt (fx a k)=bt a*aJ k:=by unfold bt aJ;rw[aci,xl]
theorem Bl {a b:a3} :hp a b≤0↔bt a≤bt b:=by unfold bt;rw[xA];exact aeg
theorem Se {a b:a3} :hp a b<0↔bt a<bt b:=by unfold bt;rw[u2];exact aeh
theorem Rl {a b:a3} (a2:a.ok) (ar:b.ok) (h:bt a=bt b):a=b:=by
 refine adR a2 ar ?_
 have h1:bt a≤bt b:=by rw[h];grind
 have h2:bt b≤bt a:=by rw[h];grind
 unfold bt at h1 h2
 rw[xA]at h1 h2
 grind
theorem ac8 {d:a3} (h:d.m=0):bt d=0:=by unfold bt;rw[ac5 h];rfl
def aD (n:Int):R:=R.rat (n:Int)
theorem g4 (a b:Int):aD (a+b)=aD a+aD b:=by unfold aD;rw[Rat.intCast_add,Fo]
theorem jJ (a b:Int):aD (a*b)=aD a*aD b:=by unfold aD;rw[Rat.intCast_mul,xl]
theorem jK (a:Int):aD (-a)= -aD a:=by unfold aD;rw[Rat.intCast_neg,PT]
theorem eE {a b:Int} :aD a≤aD b↔a≤b:=by unfold aD;rw[xA];exact Rat.intCast_le_intCast
theorem pO {a b:Int} :aD a<aD b↔a<b:=by unfold aD;rw[u2];exact Rat.intCast_lt_intCast
theorem j5:aD 0=0:=rfl
theorem gi:aD 1=1:=rfl
theorem g5 (n:Nat):aD (2^n)=aJ n:=by unfold aD aJ;rw[Fm]
theorem kS {E:Int} {d:a3} (l:fw E d):bt d=aD (d.V E)*aJ E:=by unfold bt aD aJ;rw[im l,xl]
theorem oz (k:Int):aJ k*aJ (-k)=1:=by rw[←j8,Int.add_right_neg];rfl
def ew (I:bD) (x δ:R):Prop:=bt I.lo≤x∧x≤bt I.hi∧x≤bt I.lo+δ∧bt I.hi≤x+δ
theorem ew.up {I:bD} {x δ ε:R} (h:ew I x δ) (l:δ≤ε):ew I x ε:=by unfold ew at*;grind
theorem A7 {I J:bD} {x y δ ε:R} (h:ew I x δ) (k:ew J y ε):ew (dB I J) (x+y) (δ+ε):=by
 unfold ew dB at*;simp only[A6];grind
theorem AQ {I:bD} {x δ:R} (h:ew I x δ):ew (cZ I) (-x) δ:=by
 unfold ew cZ at*;simp only[xm];grind
theorem ack {I:bD} {x δ:R} (h:ew I x δ) (k:Int):ew (fy I k) (x*aJ k) (δ*aJ k):=by
 unfold ew fy at*;simp only[w8]
 have p:=e4 k
 have a:=cb (show 0≤x - bt I.lo by grind) (show 0≤aJ k by grind)
 have b:=cb (show 0≤bt I.hi - x by grind) (show 0≤aJ k by grind)
 have c:=cb (show 0≤bt I.lo+δ - x by grind) (show 0≤aJ k by grind)
 have d:=cb (show 0≤x+δ - bt I.hi by grind) (show 0≤aJ k by grind)
 grind
theorem MD:∀(l:List a3) (m:a3),bt (dG fi m l)≤bt m∧∀y∈l,bt (dG fi m l)≤bt y
 |[],m=>⟨by show bt m≤bt m;grind,fun y h=>by cases h⟩
 |y::l,m=>by
  show bt (dG fi (if fi y m=true then y else m) l)≤bt m∧∀z∈y::l,bt (dG fi (if fi y m=true then y else m) l)≤bt z
  have cm:=MD l (if fi y m=true then y else m)
  have h1:bt (if fi y m=true then y else m)≤bt m∧bt (if fi y m=true then y else m)≤bt y:=by
   split
   ·rename_i h
    have:=Se.1 (of_decide_eq_true h)
    grind
   ·rename_i h
    have:¬bt y<bt m:=fun k=>h (decide_eq_true (Se.2 k))
    grind
  refine⟨by grind,fun z bg=> ?_⟩
  rcases List.mem_cons.1 bg with rfl|bg
  ·grind
  ·exact cm.2 z bg
theorem Mf:∀(l:List a3) (m:a3),bt m≤bt (dG fj m l)∧∀y∈l,bt y≤bt (dG fj m l)
 |[],m=>⟨by show bt m≤bt m;grind,fun y h=>by cases h⟩
 |y::l,m=>by
  show bt m≤bt (dG fj (if fj y m=true then y else m) l)∧∀z∈y::l,bt z≤bt (dG fj (if fj y m=true then y else m) l)
  have cm:=Mf l (if fj y m=true then y else m)
  have h1:bt m≤bt (if fj y m=true then y else m)∧bt y≤bt (if fj y m=true then y else m):=by
   split
   ·rename_i h
    have h:hp y m>0:=of_decide_eq_true h
    have:¬bt y≤bt m:=fun k=>by have:=Bl.2 k;omega
    grind
   ·rename_i h
    have h:¬hp y m>0:=fun k=>h (decide_eq_true k)
    have:bt y≤bt m:=Bl.1 (by omega)
    grind
  refine⟨by grind,fun z bg=> ?_⟩
  rcases List.mem_cons.1 bg with rfl|bg
  ·grind
  ·exact cm.2 z bg
theorem D7 {l x h c m:R} (h1:l≤x) (h2:x≤h) (a:m≤l*c) (b:m≤h*c):m≤x*c:=by
 rcases Std.le_total (a:=0) (b:=c)with k|k
 ·have:=cb (show 0≤x - l by grind) k
  grind
 ·have:=cb (show 0≤h - x by grind) (show 0≤-c by grind)
  grind
theorem PU {l x h p y q m:R} (h1:l≤x) (h2:x≤h) (al:p≤y) (aE:y≤q) (eR:m≤l*p) (eX:m≤l*q) (l7:m≤h*p) (n6:m≤h*q):m≤x*y:=by
 have a1:=D7 (m:=m) (c:=l) al aE (by grind) (by grind)
 have a6:=D7 (m:=m) (c:=h) al aE (by grind) (by grind)
 exact D7 h1 h2 (by grind) (by grind)
theorem acm {l x h p y q m:R} (h1:l≤x) (h2:x≤h) (al:p≤y) (aE:y≤q) (eR:l*p≤m) (eX:l*q≤m) (l7:h*p≤m) (n6:h*q≤m):x*y≤m:=by
 have:=PU (m:= -m) (l:= -h) (x:= -x) (h:= -l) (by grind) (by grind) al aE (by grind) (by grind) (by grind) (by grind)
 grind
theorem mj {a b δ ε:R} (h1: -δ≤a) (h2:a≤δ) (al: -ε≤b) (aE:b≤ε): -(δ*ε)≤a*b∧a*b≤δ*ε:=by
 have p1:=cb (show 0≤δ - a by grind) (show 0≤ε+b by grind)
 have cS:=cb (show 0≤δ+a by grind) (show 0≤ε - b by grind)
 have g2:=cb (show 0≤δ - a by grind) (show 0≤ε - b by grind)
 have si:=cb (show 0≤δ+a by grind) (show 0≤ε+b by grind)
 constructor<;>grind
theorem aad {x y δ ε u v:R} (ah: -1≤x∧x≤1) (hy: -1≤y∧y≤1) (h1:x - δ≤u∧u≤x+δ) (h2:y - ε≤v∧v≤y+ε):x*y - (δ+ε+δ*ε)≤u*v∧u*v≤x*y+(δ+ε+δ*ε):=by
 have a:=mj (a:=u - x) (b:=v - y) (δ:=δ) (ε:=ε) (by grind) (by grind) (by grind) (by grind)
 have b:=mj (a:=u - x) (b:=y) (δ:=δ) (ε:=1) (by grind) (by grind) (by grind) (by grind)
 have c:=mj (a:=x) (b:=v - y) (δ:=1) (ε:=ε) (by grind) (by grind) (by grind) (by grind)
 have e:u*v=x*y+(u - x)*(v - y)+(u - x)*y+x*(v - y):=by grind
 rw[e]
 constructor<;>grind
theorem A8 {I J:bD} {x y δ ε:R} (ah: -1≤x∧x≤1) (hy: -1≤y∧y≤1) (h:ew I x δ) (k:ew J y ε):ew (cO I J) (x*y) (δ+ε+δ*ε):=by
 obtain⟨eR,eX,l7,n6⟩:=h
 obtain⟨cf,aY,aW,aU⟩:=k
 have l:=MD [cH I.lo J.hi,cH I.hi J.lo,cH I.hi J.hi] (cH I.lo J.lo)
 have g:=Mf [cH I.lo J.hi,cH I.hi J.lo,cH I.hi J.hi] (cH I.lo J.lo)
 have hm:=w7 I J
 obtain⟨A,hA⟩:∃A,A=cO I J:=⟨_,rfl⟩
 have Y2:A.lo=dG fi (cH I.lo J.lo) [cH I.lo J.hi,cH I.hi J.lo,cH I.hi J.hi]:=by rw[hA];rfl
 have Y3:A.hi=dG fj (cH I.lo J.lo) [cH I.lo J.hi,cH I.hi J.lo,cH I.hi J.hi]:=by rw[hA];rfl
 rw[←hA]at hm⊢
 rw[←Y2]at l
 rw[←Y3]at g
 have hP:=l.2 (cH I.lo J.hi) (by simp)
 have Dt:=l.2 (cH I.hi J.lo) (by simp)
 have qw:=l.2 (cH I.hi J.hi) (by simp)
 have c8:=l.1
 have dy:=g.2 (cH I.lo J.hi) (by simp)
 have fM:=g.2 (cH I.hi J.lo) (by simp)
 have ui:=g.2 (cH I.hi J.hi) (by simp)
 have cW:=g.1
 clear l g Y2 Y3 hA
 simp only[Rk]at c8 hP Dt qw cW dy fM ui
 have ao:∀z∈h9 I J,x*y - (δ+ε+δ*ε)≤bt z∧bt z≤x*y+(δ+ε+δ*ε):=by
  intro z bg
  simp only[h9,List.mem_cons,List.mem_nil_iff,or_false]at bg
  rcases bg with rfl|rfl|rfl|rfl<;>rw[Rk]<;>exact aad ah hy (by grind) (by grind)
 exact⟨PU eR eX cf aY c8 hP Dt qw,acm eR eX cf aY cW dy fM ui,by have:=(ao _ hm.1).1;grind,by have:=(ao _ hm.2).2;grind⟩
end RV.Dr
namespace RV.Dr
open RV RR
set_option linter.unusedSimpArgs false
set_option linter.unusedVariables false
theorem uN:(0:R)<1:=by have:=l1;have:=ks;grind
theorem adS (n:Nat) (v:Int):(v - du n v)*2^n≤2*(v.natAbs:Int):=by
 unfold du
 by_cases ae:bc v.natAbs≤n
 ·rw[Nat.sub_eq_zero_of_le ae,Int.pow_zero,Int.ediv_one,Int.mul_one,Int.sub_self,Int.zero_mul];omega
 ·have h0:v.natAbs≠0:=fun e=>by rw[e,j2]at ae;omega
  have h1:=DM h0
  have e:v - v / 2^(bc v.natAbs - n)*2^(bc v.natAbs - n)=v % 2^(bc v.natAbs - n):=by
   have:=Int.emod_add_mul_ediv v (2^(bc v.natAbs - n))
   rw[Int.mul_comm]at this;omega
  rw[e]
  have h2:=Int.emod_lt_of_pos v (mh (bc v.natAbs - n))
  have al:v % 2^(bc v.natAbs - n)*2^n≤2^(bc v.natAbs - n)*2^n:=Int.mul_le_mul_of_nonneg_right (by omega) (Int.le_of_lt (mh n))
  rw[←Int.pow_add,show bc v.natAbs - n+n=(bc v.natAbs - 1)+1 by omega,Int.pow_succ]at al
  have aE:((2^(bc v.natAbs - 1):Nat):Int)=2^(bc v.natAbs - 1):=Int.natCast_pow 2 _
  omega
theorem A9 (a b:Int):aD (a - b)=aD a - aD b:=by rw[Int.sub_eq_add_neg,g4,jK];grind
theorem pB {a t s B:R} (h:a*t≤B) (q:t*s=1) (ps:0<s):a≤B*s:=by
 have:=cb (show 0≤B - a*t by grind) (show 0≤s by grind)
 have e:(B - a*t)*s=B*s - a*(t*s):=by grind
 rw[e,q]at this
 grind
theorem AR (n:Nat) (v:Int) {B:R} (h1:aD v≤B) (h2: -B≤aD v):aD v - aD (du n v)≤(B+B)*aJ (-n):=by
 have h:=adS n v
 rw[←eE,jJ,jJ,A9,g5]at h
 have aH:aD (v.natAbs:Int)≤B:=by
  rcases (by omega:(v.natAbs:Int)=v∨(v.natAbs:Int)= -v)with e|e
  ·rw[e];exact h1
  ·rw[e,jK];grind
 have a6:aD 2=1+1:=by rw[show (2:Int)=1+1 by decide,g4,gi]
 rw[a6]at h
 have p:=e4 (-(n:Int))
 have q:=oz (n:Int)
 exact pB (by grind) q p
theorem PV {d:a3} (ok:d.ok) (n:Nat) {A:R} (h1:bt d≤A) (h2: -A≤bt d):
 (bt (fg d n false)≤bt d∧bt d≤bt (fg d n false)+A*aJ (1 - n))∧(bt d≤bt (fg d n true)∧bt (fg d n true)≤bt d+A*aJ (1 - n)):=by
 have l:fw d.e d:=fun _=>Int.le_refl _
 rw[kS l,kS (l.cut n _),kS (l.cut n _),F4 ok l,F4 ok l]
 rw[kS l]at h1 h2
 generalize d.V d.e=v at*
 have p:=e4 d.e
 have q:=oz d.e
 obtain⟨t,ae⟩:∃t,t=aJ d.e:=⟨_,rfl⟩
 obtain⟨s,ay⟩:∃s,s=aJ (-d.e):=⟨_,rfl⟩
 have ps:0<s:=ay▸e4 _
 rw[←ae,←ay]at q
 rw[←ae]at p h1 h2⊢
 have cf:aD v≤A*s:=pB h1 q ps
 have aY: -(A*s)≤aD v:=by
  have:=pB (a:= -aD v) (B:=A) (by grind) q ps
  grind
 have d1:=acf (n:=n) v
 have d2:=Rf (n:=n) v
 rw[←eE]at d1 d2
 have a1:=AR n v cf aY
 have a6:=AR n (-v) (B:=A*s) (by rw[jK];grind) (by rw[jK];grind)
 have bf:gp n false v=du n v:=by unfold gp;rw[if_neg (by decide)]
 have bd:gp n true v= -(du n (-v)):=by unfold gp;rw[if_pos rfl]
 rw[bf]at d1⊢
 rw[bd,jK]at d2⊢
 rw[jK]at a6
 have cU:aJ (1 - n)=aJ (-n)+aJ (-n):=by rw[←jI];congr 1;omega
 rw[cU]
 obtain⟨z,bg⟩:∃z,z=aJ (-(n:Int)):=⟨_,rfl⟩
 rw[←bg]at a1 a6⊢
 have f1:=cb (show 0≤(A*s+A*s)*z - (aD v - aD (du n v))by grind) (show 0≤t by grind)
 have f2:=cb (show 0≤(A*s+A*s)*z - (-aD v - aD (du n (-v)))by grind) (show 0≤t by grind)
 have f3:=cb (show 0≤aD v - aD (du n v)by grind) (show 0≤t by grind)
 have f4:=cb (show 0≤-aD (du n (-v)) - aD v by grind) (show 0≤t by grind)
 have cW:((A*s+A*s)*z - (aD v - aD (du n v)))*t=(A*z+A*z)*(t*s) - (aD v*t - aD (du n v)*t):=by grind
 have dy:((A*s+A*s)*z - (-aD v - aD (du n (-v))))*t=(A*z+A*z)*(t*s)+aD v*t+aD (du n (-v))*t:=by grind
 rw[cW,q]at f1
 rw[dy,q]at f2
 refine⟨⟨by grind,by grind⟩,by grind,by grind⟩
def bD.ok (I:bD):Prop:=I.lo.ok∧I.hi.ok
theorem Rm {I:bD} {x δ A:R} {n:Nat} (ok:bD.ok I) (h:ew I x δ) (h1:x+δ≤A) (h2: -A≤x - δ):ew (kh I n) x (δ+A*aJ (1 - n)):=by
 unfold ew at*
 have d:0≤δ:=by grind
 have a:=(PV ok.1 n (A:=A) (by grind) (by grind)).1
 have b:=(PV ok.2 n (A:=A) (by grind) (by grind)).2
 unfold kh
 simp only
 refine⟨by grind,by grind,by grind,by grind⟩
theorem ac9 {x:a3} (ok:x.ok) (h:0≤bt x):x.neg=false:=by
 cases ah:x.neg with
 |false=>rfl
 |true=>
  exfalso
  have h0:x.m≠0:=fun e=>by have:=(ok.1 e).1;rw[this]at ah;cases ah
  have:gD x<0:=by unfold gD;rw[if_neg h0,if_pos ah];decide
  have:=Me.1 this
  have h:R.rat 0≤R.rat (hI x):=h
  rw[xA]at h
  grind
theorem adT (n k:Nat) (aH:1≤n):lf n ((2:Int)^k):=by
 unfold lf
 have e:((2:Int)^k).natAbs=1*2^k:=by rw[Int.natAbs_pow,Nat.one_mul];rfl
 rw[e,j3 (by decide)]
 have:bc 1=1:=by decide+kernel
 exact sH (by omega)
theorem ON {x:a3} (ok:x.ok) {n:Nat} (aH:1≤n) (h0:0≤bt x) (h1:bt x≤1) {y:R} (ph:0≤y) (hy:y*y=bt x):
 (0≤bt (dD x n false)∧bt (dD x n false)≤y∧y≤bt (dD x n false)+aJ (3 - n))∧(y≤bt (dD x n true)∧bt (dD x n true)≤y+aJ (3 - n)∧bt (dD x n true)≤1):=by
 have neg:=ac9 ok h0
 obtain⟨E,dQ,ajA,alY⟩:∃E:Int,E+1≤(x.e - fe x n) / 2∧2*E≤x.e∧E≤0:=⟨min (min ((x.e - fe x n) / 2 - 1) (x.e / 2)) 0,by omega,by omega,by omega⟩
 have cP:fw (2*E) x:=fun _=>ajA
 obtain⟨⟨s1,s2,_⟩,t1,t2,t3⟩:=abv aH dQ cP neg
 have bP:=A5 aH dQ false
 have ca:=A5 aH dQ true
 have rs:=PK aH dQ cP neg
 rw[kS (PJ dQ false),kS (PJ dQ true)]
 rw[kS cP]at hy h1
 have ajB:aJ (2*E)=aJ E*aJ E:=by rw[←j8];congr 1;omega
 rw[ajB]at hy h1
 have hQ:=e4 E
 have zp:y≤1:=RR.fz (by have:=uN;grind) (by grind)
 have alv:aD (2^(-E).toNat)*aJ E=1:=by
  rw[g5]
  have:=oz (-E)
  rw[show ((-E).toNat:Int)= -E by omega]
  rw[Int.neg_neg]at this;exact this
 have nY:aD ((dD x n true).V E)*aJ E≤1:=by
  have:=t3 (2^(-E).toNat) (Int.le_of_lt (mh _)) (adT n _ aH) (by
   rw[←eE,jJ]
   have ps:0<aD (2^(-E).toNat):=by rw[g5];exact e4 _
   have q:aJ E*aD (2^(-E).toNat)=1:=by grind
   have br:=pB (a:=aD (x.V (2*E))*aJ E) (t:=aJ E) (B:=1) (by grind) q ps
   have bw:=pB br q ps
   grind)
  rw[←eE]at this
  have:=cb (show 0≤aD (2^(-E).toNat) - aD ((dD x n true).V E)by grind) (show 0≤aJ E by grind)
  grind
 have o1:0≤aD ((dD x n false).V E)*aJ E:=by
  have KH:0≤aD ((dD x n false).V E):=by rw[←j5,eE];exact s1
  exact cb KH (by grind)
 have Dg:aD ((dD x n false).V E)*aJ E≤y:=by
  refine RR.fz ph ?_
  rw[←eE,jJ]at s2
  have:=cb (show 0≤aD (x.V (2*E)) - aD ((dD x n false).V E)*aD ((dD x n false).V E)by grind) (cb (show 0≤aJ E by grind) (show 0≤aJ E by grind))
  grind
 have yO:y≤aD ((dD x n true).V E)*aJ E:=by
  have ajC:0≤aD ((dD x n true).V E):=by rw[←j5,eE];exact t1
  refine RR.fz (cb ajC (by grind)) ?_
  rw[←eE,jJ]at t2
  have:=cb (show 0≤aD ((dD x n true).V E)*aD ((dD x n true).V E) - aD (x.V (2*E))by grind) (cb (show 0≤aJ E by grind) (show 0≤aJ E by grind))
  grind
 obtain⟨a,a2⟩:∃a,a=aJ (-(n:Int)):=⟨_,rfl⟩
 obtain⟨b,ar⟩:∃b,b=aJ (-(n:Int) - 2):=⟨_,rfl⟩
 have ma:0<b:=ar▸e4 _
 have alZ:a=b+b+(b+b):=by
  have a1:=jI (-(n:Int) - 2)
  have a6:=jI (-(n:Int) - 2+1)
  rw[show -(n:Int) - 2+1+1= -n by omega]at a6
  rw[a2,ar];grind
 have jY:aJ (3 - n)=a+a+(a+a)+(a+a+(a+a)):=by
  have a1:=jI (-(n:Int))
  have a6:=jI (-(n:Int)+1)
  have cU:=jI (-(n:Int)+1+1)
  rw[show -(n:Int)+1+1+1=3 - n by omega]at cU
  rw[a2];grind
 have al0:a+a≤1:=by
  have a1:=jI (-(n:Int))
  have:=nD (a:= -(n:Int)+1) (b:=0) (by omega)
  rw[Fp]at this
  rw[a2];grind
 have hm:=EC x n
 rw[jY]
 rw[rs]at hy
 clear rs s1 s2 t1 t2 t3
 generalize xG x n E=p at*
 by_cases cj:q5 x n=0
 ·rw[cj,sy]at bP ca
  rw[cj]at hy
  have e9:(dD x n false).V E=0:=by rw[bP];simp[gp,Fi]
  have gY:(dD x n true).V E=0:=by rw[ca];simp[gp,Fi]
  have Kf:y*y=0*0:=by rw[hy];simp only[Int.natCast_zero,Int.mul_zero,Int.zero_mul,j5];grind
  have al1:y=0:=Ri ph (by grind) Kf
  rw[e9]at o1 Dg⊢
  rw[gY]at yO nY⊢
  rw[j5]at*
  refine⟨⟨o1,Dg,by grind⟩,yO,by grind,nY⟩
 ·have b5:=F5 aH hm cj
  obtain⟨M,akZ⟩:∃M,M=q5 x n:=⟨_,rfl⟩
  rw[←akZ]at bP ca hy cj b5
  have ea:((cp M:Int) - 1)*((cp M:Int) - 1)≤4*M∧4*(M:Int)≤((cp M:Int)+1)*((cp M:Int)+1):=by
   have i1:=(jG M).1
   have i2:=(jG M).2
   have bB:((aX M*aX M:Nat):Int)=(aX M:Int)*(aX M:Int):=Int.natCast_mul _ _
   have cu:(((aX M+1)*(aX M+1):Nat):Int)=((aX M:Int)+1)*((aX M:Int)+1):=by rw[Int.natCast_mul];rfl
   have eU:((aX M:Int)+1)*((aX M:Int)+1)=(aX M:Int)*(aX M:Int)+2*(aX M:Int)+1:=by grind
   rcases uC M with ⟨a1,a6⟩|⟨a1,a6⟩
   ·rw[a6]
    have wx:(((2*aX M:Nat):Int) - 1)*(((2*aX M:Nat):Int) - 1)=4*((aX M:Int)*(aX M:Int)) - 4*(aX M:Int)+1:=by grind
    have ak0:(((2*aX M:Nat):Int)+1)*(((2*aX M:Nat):Int)+1)=4*((aX M:Int)*(aX M:Int))+4*(aX M:Int)+1:=by grind
    rw[a6]at b5
    have:=mh (n+2)
    omega
   ·rw[a6]
    have wx:(((2*aX M+1:Nat):Int) - 1)*(((2*aX M+1:Nat):Int) - 1)=4*((aX M:Int)*(aX M:Int)):=by grind
    have ak0:(((2*aX M+1:Nat):Int)+1)*(((2*aX M+1:Nat):Int)+1)=4*((aX M:Int)*(aX M:Int))+8*(aX M:Int)+4:=by grind
    omega
  obtain⟨ft,fY⟩:=ea
  rw[←eE]at ft fY b5
  simp only[jJ,g4,A9,gi]at ft fY hy
  rw[g5]at b5
  obtain⟨v,aA⟩:∃v:Int,v=(cp M:Int)*2^p:=⟨_,rfl⟩
  have ak1:0<aD (2^p):=by rw[g5];exact e4 _
  have amv:aJ (n+2)≤aD (cp M:Int):=by rw[show (n:Int)+2=((n+2:Nat):Int)by omega];exact b5
  have Lq:aD v=aD (cp M:Int)*aD (2^p):=by rw[aA,jJ]
  rw[←aA]at bP ca
  have bW:gp n false v=du n v:=by unfold gp;rw[if_neg (by decide)]
  have cy:gp n true v= -(du n (-v)):=by unfold gp;rw[if_pos rfl]
  rw[bP,bW]at o1 Dg⊢
  rw[ca,cy,jK]at yO nY⊢
  have Lr:0≤aD (cp M:Int):=by have:=e4 ((n:Int)+2);grind
  have ak2:0≤aD v:=by rw[Lq];exact cb Lr (by grind)
  have f1:=AR n v (B:=aD v) (by grind) (by grind)
  have f2:=AR n (-v) (B:=aD v) (by rw[jK];grind) (by rw[jK];grind)
  rw[jK,←a2]at f2
  rw[←a2]at f1
  have zl:aJ (n+2)*b=1:=by have:=oz ((n:Int)+2);rw[show -((n:Int)+2)= -n - 2 by omega,←ar]at this;exact this
  rw[Lq]at f1 f2
  clear bP ca bW cy aA ak2 b5 hm cj jY a2 ar Lq
  generalize aD (du n v)=L at*
  generalize aD (du n (-v))=H at*
  generalize aD (cp M:Int)=T at*
  generalize aD (2^p)=P at*
  generalize aJ E=z at*
  generalize aD 4*aD (M:Int)=F at*
  generalize aJ ((n:Int)+2)=c at*
  have ix:0<P*z:=px ak1 hQ
  obtain⟨t,ae⟩:∃t,t=P*z:=⟨_,rfl⟩
  rw[←ae]at ix
  have cW:T*t - t≤y:=by
   refine RR.fz ph ?_
   have:=cb (show 0≤F - (T - 1)*(T - 1)by grind) (cb (show 0≤t by grind) (show 0≤t by grind))
   rw[hy,show (T*t - t)*(T*t - t)=(T - 1)*(T - 1)*(t*t)by grind,show F*(P*P)*(z*z)=F*(t*t)by grind]
   grind
  have dy:y≤T*t+t:=by
   have amw:=cb Lr (show 0≤t by grind)
   refine RR.fz (by grind) ?_
   have:=cb (show 0≤(T+1)*(T+1) - F by grind) (cb (show 0≤t by grind) (show 0≤t by grind))
   rw[hy,show (T*t+t)*(T*t+t)=(T+1)*(T+1)*(t*t)by grind,show F*(P*P)*(z*z)=F*(t*t)by grind]
   grind
  have fM:t≤T*t*b:=by
   have:=cb (show 0≤T - c by grind) (cb (show 0≤t by grind) (show 0≤b by grind))
   have e:(T - c)*(t*b)=T*t*b - t*(c*b):=by grind
   rw[e,zl]at this
   grind
  have ui:T*P*z - L*z≤(T*P*z+T*P*z)*a:=by
   have:=cb (show 0≤(T*P+T*P)*a - (T*P - L)by grind) (show 0≤z by grind)
   grind
  have ak3: -H*z - T*P*z≤(T*P*z+T*P*z)*a:=by
   have:=cb (show 0≤(T*P+T*P)*a - (-(T*P) - H)by grind) (show 0≤z by grind)
   grind
  have zq:T*P*z=T*t:=by rw[ae];grind
  rw[zq]at ui ak3
  have bs:=cb Lr (show 0≤t by grind)
  generalize T*t=u at*
  have bd:u≤1+1:=by
   refine Std.not_lt.1 fun k=> ?_
   have:=cb (show 0≤u - (1+1)by grind) (show 0≤1 - (b+b)by grind)
   grind
  have p1:=cb (show 0≤(1+1) - u by grind) (show 0≤b by grind)
  have cS:=cb (show 0≤(1+1) - u by grind) (show 0≤a by grind)
  refine⟨⟨o1,Dg,by grind⟩,yO,by grind,nY⟩
end RV.Dr
namespace RV.Dr
open RV RR
set_option linter.unusedSimpArgs false
set_option linter.unusedVariables false
theorem ada {I:bD} {x δ τ y:R} {n:Nat} (ok:bD.ok I) (h:ew I x δ) (aH:1≤n) (o1:0≤bt I.lo) (nY:bt I.hi≤1) (ph:0≤y) (hy:y*y=x)
 (h1:∀z,0≤z→z*z≤x→x≤z*z+δ→y≤z+τ) (h2:∀z,0≤z→x≤z*z→z*z≤x+δ→z≤y+τ):
 ew (mv I n) y (τ+aJ (3 - n))∧0≤bt (mv I n).lo∧bt (mv I n).hi≤1:=by
 obtain⟨eR,eX,l7,n6⟩:=h
 have r:=kE o1
 have s:=kE (x:=bt I.hi) (by grind)
 have a1:=(ON ok.1 aH o1 (by grind) r.1 r.2).1
 have a6:=(ON ok.2 aH (by grind) nY s.1 s.2).2
 have br:=h1 _ r.1 (by rw[r.2];exact eR) (by rw[r.2];exact l7)
 have bw:=h2 _ s.1 (by rw[s.2];exact eX) (by rw[s.2];exact n6)
 have c3:iy (bt I.lo)≤y:=RR.fz ph (by rw[r.2,hy];exact eR)
 have gW:y≤iy (bt I.hi):=RR.fz s.1 (by rw[s.2,hy];exact eX)
 unfold mv ew
 simp only
 refine⟨⟨by grind,by grind,by grind,by grind⟩,by grind,by grind⟩
theorem Rn {x δ y:R} (ph:hf≤y) (hy:y*y=x):(∀z,0≤z→z*z≤x→x≤z*z+δ→y≤z+(δ+δ))∧(∀z,0≤z→x≤z*z→z*z≤x+δ→z≤y+(δ+δ)):=by
 have p:=l1
 have q:=ks
 constructor
 ·intro z wA e9 gY
  refine Std.not_lt.1 fun k=> ?_
  have m:=cb (show 0≤y - z by grind) (show 0≤y+z - hf by grind)
  have hG:=px (show 0<y - z - (δ+δ)by grind) p
  have e:(y - z - (δ+δ))*hf=(y - z)*hf - δ*(hf+hf):=by grind
  rw[e,q]at hG
  grind
 ·intro z wA e9 gY
  refine Std.not_lt.1 fun k=> ?_
  have m:=cb (show 0≤z - y by grind) (show 0≤y+z - hf by grind)
  have hG:=px (show 0<z - y - (δ+δ)by grind) p
  have e:(z - y - (δ+δ))*hf=(z - y)*hf - δ*(hf+hf):=by grind
  rw[e,q]at hG
  grind
theorem Ro {x δ y τ:R} (ph:0≤y) (hy:y*y=x) (t0:0≤τ) (ae:δ≤τ*τ):(∀z,0≤z→z*z≤x→x≤z*z+δ→y≤z+τ)∧(∀z,0≤z→x≤z*z→z*z≤x+δ→z≤y+τ):=by
 constructor
 ·intro z wA e9 gY
  rcases Std.le_total (a:=y) (b:=z)with k|k
  ·grind
  ·have:y - z≤τ:=RR.fz t0 (by have:=cb (show 0≤y - z by grind) wA;grind)
   grind
 ·intro z wA e9 gY
  rcases Std.le_total (a:=z) (b:=y)with k|k
  ·grind
  ·have:z - y≤τ:=RR.fz t0 (by have:=cb (show 0≤z - y by grind) ph;grind)
   grind
theorem Fq:aJ (-1)=hf:=by
 have a:=jI (-1)
 have b:=ks
 have c:=l1
 have e:aJ (-1+1)=1:=rfl
 rw[e]at a
 have z:(hf+hf)*(aJ (-1) - hf)=0:=by grind
 rw[b]at z
 grind
theorem vd:ew i1 1 0:=by
 have:bt d1=1:=by
  rw[kS (E:=0) (fun _=>by show (0:Int)≤0;omega)]
  have e:d1.V 0=1:=by decide+kernel
  rw[e];show aD 1*1=1;rw[gi];grind
 unfold ew i1
 simp only[this]
 grind
theorem acn {I:bD} {n:Nat} (h:0≤bt I.lo):fl I n=mv (fy I (-1)) n:=by
 unfold fl
 rw[if_neg]
 intro k
 have:=Me.1 k
 have bw:bt (fx I.lo (-1))<0:=by
  show R.rat _<R.rat 0
  rw[u2];exact this
 rw[w8]at bw
 have:=cb h (show 0≤aJ (-1)by have:=e4 (-1);grind)
 grind
theorem AU {I:bD} {x δ τ y:R} {n:Nat} (ok:bD.ok I) (h:ew I x δ) (aH:1≤n) (o1:0≤bt I.lo) (nY:bt I.hi≤1+1) (ph:0≤y) (hy:y*y=hf*x)
 (h1:∀z,0≤z→z*z≤hf*x→hf*x≤z*z+hf*δ→y≤z+τ) (h2:∀z,0≤z→hf*x≤z*z→z*z≤hf*x+hf*δ→z≤y+τ):
 ew (fl I n) y (τ+aJ (3 - n))∧0≤bt (fl I n).lo∧bt (fl I n).hi≤1:=by
 rw[acn o1]
 have s:=ack h (-1)
 rw[Fq,show x*hf=hf*x by grind,show δ*hf=hf*δ by grind]at s
 have p:=l1
 have q:=ks
 refine ada ⟨lA ..,lA ..⟩ s aH ?_ ?_ ph hy h1 h2
 ·unfold fy
  simp only[w8,Fq]
  exact cb o1 (by grind)
 ·unfold fy
  simp only[w8,Fq]
  have:=cb (show 0≤1+1 - bt I.hi by grind) (show 0≤hf by grind)
  grind
theorem sP {lo hi:Int} {I:bD} (h:I.win lo hi):bD.ok I:=⟨h.1.1,h.2.1⟩
theorem Ac {I J:bD} (h:bD.ok I) (k:bD.ok J):bD.ok (dB I J):=⟨Fa h.1 k.1,Fa h.2 k.2⟩
theorem Sf {c y:R} (h0:0≤y) (ao:0≤c) (hy:y*y=hf*(1+c)):hf≤y:=by
 have p:=l1
 have q:=ks
 refine RR.fz h0 ?_
 have:=cb ao (show 0≤hf by grind)
 have e:hf*hf*(1+1)=hf*(hf+hf):=by grind
 rw[q]at e
 rw[hy];grind
theorem adb {n:Nat} (aH:1≤n) {τ:R} (t0:0≤τ) (ae:aJ (6 - n)≤τ*τ):∀k:Nat,k≤14→
 (ew (aA n k).c (ao k) (aD (k+1)*aJ (3 - n))∧0≤bt (aA n k).c.lo∧bt (aA n k).c.hi≤1)∧(ew (aA n k).s (ay k) (τ+aJ (3 - n))∧0≤bt (aA n k).s.lo∧bt (aA n k).s.hi≤1):=by
 have p:=l1
 have q:=ks
 have cF:=e4 (3 - n)
 have jY:aJ (6 - n)=aD 8*aJ (3 - n):=by
  rw[show (8:Int)=2^3 by decide,g5,←j8];congr 1;omega
 have Dh:bD.ok i1:=sP (vw (lo:=0) (hi:=1) (by omega) (by omega))
 intro k
 induction k with
 |zero=>
  intro _
  have r:=kE (x:=hf) (by grind)
  have iS:=vd
  have aB:0≤bt i1.lo:=by unfold ew at iS;grind
  have dZ:bt i1.hi≤1+1:=by unfold ew at iS;grind
  have a1:(aD ((0:Nat)+1):R)=1:=gi
  have ajD:hf*1=hf:=by grind
  have hfz:hf*(0:R)=0:=by grind
  have c:=Rn (x:=hf*1) (δ:=hf*0) (y:=iy hf) (by
   have:=Sf (c:=0) r.1 (by grind) (by rw[r.2];grind);exact this) (by rw[r.2];grind)
  have s:=Ro (x:=hf*1) (δ:=hf*0) (y:=iy hf) (τ:=τ) r.1 (by rw[r.2];grind) t0 (by have:=e4 (6 - n);grind)
  refine⟨?_,AU Dh iS aH aB dZ r.1 (r.2.trans ajD.symm) s.1 s.2⟩
  have:=AU Dh iS aH aB dZ r.1 (by rw[r.2];grind) c.1 c.2
  refine⟨this.1.up (by rw[a1];grind),this.2⟩
 |succ k cm=>
  intro ad
  obtain⟨⟨eR,eX,l7⟩,-⟩:=cm (by omega)
  obtain⟨eW,bB,l9,al2⟩:=Bk k
  have ajE:bD.ok (aA n k).c:=sP (rq (by omega) k).1
  have iS:=A7 vd eR
  have k9:=A7 vd (AQ eR)
  have r:=kE (x:=hf*(1+ao k)) (cb (by grind) (by grind))
  have t:=kE (x:=hf*(1 - ao k)) (cb (by grind) (by grind))
  have ug:=vd
  unfold ew at ug
  have c8:0≤bt (dB i1 (aA n k).c).lo∧bt (dB i1 (aA n k).c).hi≤1+1:=by
   unfold dB;simp only[A6]
   constructor<;>grind
  have hP:0≤bt (dB i1 (cZ (aA n k).c)).lo∧bt (dB i1 (cZ (aA n k).c)).hi≤1+1:=by
   unfold dB cZ;simp only[A6,xm]
   constructor<;>grind
  have vx:(aD (k+1):R)≤aD 16:=eE.2 (by omega)
  have KI:aD 16=aD 8+aD 8:=by rw[←g4];rfl
  have m:=cb (show 0≤aD 16 - aD (k+1)by grind) (show 0≤aJ (3 - n)by grind)
  have c:=Rn (x:=hf*(1+ao k)) (δ:=hf*(0+aD (k+1)*aJ (3 - n))) (Sf r.1 eW r.2) r.2
  have ek:aD ((k+1:Nat)+1)=aD (k+1)+1:=by rw[←gi,←g4];rfl
  have s:=Ro (x:=hf*(1+ -ao k)) (δ:=hf*(0+aD (k+1)*aJ (3 - n))) (y:=iy (hf*(1 - ao k))) (τ:=τ) t.1 (by rw[t.2];grind) t0 (by
   have hG:=cb (show 0≤aD 16*aJ (3 - n) - aD (k+1)*aJ (3 - n)by grind) (show 0≤hf by grind)
   have e:hf*(aD 16*aJ (3 - n))=(hf+hf)*(aD 8*aJ (3 - n)):=by rw[KI];grind
   rw[q,←jY]at e
   grind)
  refine⟨?_,?_⟩
  ·have:=AU (Ac Dh ajE) iS aH c8.1 c8.2 r.1 r.2 c.1 c.2
   refine⟨this.1.up ?_,this.2⟩
   rw[ek]
   have e:hf*(0+aD (k+1)*aJ (3 - n))+hf*(0+aD (k+1)*aJ (3 - n))=(hf+hf)*(aD (k+1)*aJ (3 - n)):=by grind
   rw[e,q];grind
  ·exact AU (Ac Dh (sP (ll (rq (w:=(n:Int)) (by omega) k).1))) k9 aH hP.1 hP.2 t.1 (t.2.trans (by grind)) s.1 s.2
end RV.Dr
namespace RV.Dr
open RV RR
set_option linter.unusedSimpArgs false
set_option linter.unusedVariables false
def iz (p:db) (z:bA) (δ:R):Prop:=ew p.c z.cM δ∧ew p.s z.dh δ
theorem iz.up {p:db} {z:bA} {δ ε:R} (h:iz p z δ) (l:δ≤ε):iz p z ε:=⟨h.1.up l,h.2.up l⟩
theorem Av {z:bA} (h:z.hE=1):(-1≤z.cM∧z.cM≤1)∧(-1≤z.dh∧z.dh≤1):=by
 unfold bA.hE at h
 have a:=Em z.cM
 have b:=Em z.dh
 have o:=uN
 have eR:z.cM≤1:=RR.fz (by grind) (by grind)
 have eX: -z.cM≤1:=RR.fz (by grind) (by grind)
 have cf:z.dh≤1:=RR.fz (by grind) (by grind)
 have aY: -z.dh≤1:=RR.fz (by grind) (by grind)
 grind
def db.ok (p:db):Prop:=bD.ok p.c∧bD.ok p.s
theorem AV (I J:bD):bD.ok (cO I J):=by
 have ao:∀z∈h9 I J,z.ok:=by
  intro z bg
  simp only[h9,List.mem_cons,List.mem_nil_iff,or_false]at bg
  rcases bg with rfl|rfl|rfl|rfl<;>exact lA ..
 exact⟨ao _ (w7 I J).1,ao _ (w7 I J).2⟩
theorem aco {I:bD} (h:bD.ok I):bD.ok (cZ I):=⟨w4 h.2,w4 h.1⟩
theorem acp {p q:db} {z u:bA} {δ ε σ:R} {n:Nat} (bg:z.hE=1) (hu:u.hE=1) (h:iz p z δ) (k:iz q u ε) (d0:0≤δ) (d1:δ≤1) (cF:0≤ε) (a1:ε≤σ) (s1:σ≤1) (aH:aJ (4 - n)≤σ):
 iz (mw p q n) (z.mul u) (δ+δ+aD 5*σ):=by
 have a:=Av bg
 have b:=Av hu
 have o:=uN
 have amx:=cb (show 0≤1 - δ by grind) cF
 have gw:=A8 a.1 b.1 h.1 k.1
 have hG:=A8 a.2 b.2 h.2 k.2
 have oa:=A8 a.2 b.1 h.2 k.1
 have pd:=A8 a.1 b.2 h.1 k.2
 have KH:=A7 gw (AQ hG)
 have Cl:=A7 oa pd
 have dx:aD 5=1+1+1+1+1:=by rw[show (5:Int)=1+1+1+1+1 by decide];simp only[g4,gi]
 have ajF:aD 5*σ=σ+σ+σ+σ+σ:=by rw[dx];grind
 rw[ajF]
 have jY:aJ (4 - n)=(1+1+(1+1)+(1+1+(1+1)))*aJ (1 - n):=by
  have f1:=jI (1 - n)
  have f2:=jI (1 - n+1)
  have f3:=jI (1 - n+1+1)
  rw[show (1:Int) - n+1+1+1=4 - n by omega]at f3
  grind
 have iS:=mj (a:=z.cM) (b:=u.cM) (δ:=1) (ε:=1) (by grind) (by grind) (by grind) (by grind)
 have k9:=mj (a:=z.dh) (b:=u.dh) (δ:=1) (ε:=1) (by grind) (by grind) (by grind) (by grind)
 have ur:=mj (a:=z.dh) (b:=u.cM) (δ:=1) (ε:=1) (by grind) (by grind) (by grind) (by grind)
 have qx:=mj (a:=z.cM) (b:=u.dh) (δ:=1) (ε:=1) (by grind) (by grind) (by grind) (by grind)
 have br:=Rm (n:=n) (A:=1+1+(1+1)+(1+1+(1+1))) (Ac (AV _ _) (aco (AV _ _))) KH (by grind) (by grind)
 have bw:=Rm (n:=n) (A:=1+1+(1+1)+(1+1+(1+1))) (Ac (AV _ _) (AV _ _)) Cl (by grind) (by grind)
 rw[←jY]at br bw
 unfold iz mw bA.mul
 simp only
 constructor
 ·rw[show z.cM*u.cM - z.dh*u.dh=z.cM*u.cM+ -(z.dh*u.dh)by grind]
  exact br.up (by grind)
 ·rw[show z.cM*u.dh+z.dh*u.cM=z.dh*u.cM+z.cM*u.dh by grind]
  exact bw.up (by grind)
theorem F6:iz p0 bA.one 0:=by
 refine⟨vd,?_⟩
 have:bt (⟨false,0,0⟩:a3)=0:=ac8 rfl
 unfold ew p0 bA.one
 simp only[this]
 grind
noncomputable def r3 (K Q:Nat):Nat→Nat→bA→bA
 |0,_,z=>z
 |k+1,q,z=>r3 K Q k (q+1) (if (K / 2^(Q - q)) % 2=1 then z.mul (un q)else z)
theorem FN {K Q:Nat} :∀(k q:Nat) (z:bA),q+k=Q+1→r3 K Q k q z=z.mul ((un Q).pow (K % 2^k))
 |0,q,z,h=>by
  rw[Nat.pow_zero,Nat.mod_one]
  exact(bA.mul_one z).symm
 |k+1,q,z,h=>by
  unfold r3
  rw[FN k (q+1) _ (by omega),Nat.mod_pow_succ,show Q - q=k by omega,Nat.add_comm,bA.pow_add,bA.pow_mul]
  have e:(un Q).pow (2^k)=un q:=by
   have:=FM q k
   rwa [show q+k=Q by omega]at this
  rw[e]
  rcases (by omega:K / 2^k % 2=1∨K / 2^k % 2=0)with b|b
  ·rw[b,if_pos rfl,bA.assoc]
   congr 2
   exact(bA.one_mul _).symm
  ·rw[b,if_neg (by decide)]
   show _=z.mul (bA.one.mul _)
   rw[bA.one_mul]
theorem FO {K Q:Int} {n:Nat} {τ σ:R} (aH:1≤n) (t0:0≤τ) (ae:aJ (6 - n)≤τ*τ) (ay:τ+aJ (3 - n)≤σ) (tz:aJ (4 - n)≤σ) (Vu:aD 16*aJ (3 - n)≤σ) (s1:aD 5*σ*aD (2^12)≤1):
 ∀(k q m:Nat) {p:db} {z:bA},3≤q→q+k≤17→m+k≤12→z.hE=1→iz p z ((aD (2^m) - 1)*(aD 5*σ))→iz (k7 K Q n k q p) (r3 K.toNat Q.toNat k q z) ((aD (2^(m+k)) - 1)*(aD 5*σ))
 |0,q,m,p,z,_,_,_,bg,h=>h
 |k+1,q,m,p,z,aZ,ad,hm,bg,h=>by
  have g2:=e4 (3 - n)
  have f0:0≤aD 5*σ:=cb (by rw[←j5,eE];decide) (by grind)
  have amy:1≤aD (2^m):=by
   rw[←gi,eE]
   have:=mh m
   omega
  have gw:aD (2^m)≤aD (2^12):=by
   rw[g5,g5];exact nD (by omega)
  have a1:aD (2^(m+1))=aD (2^m)+aD (2^m):=by
   rw[←g4];congr 1;rw[Int.pow_succ];omega
  have d0:=cb (show 0≤aD (2^m) - 1 by grind) f0
  have d1:=cb (show 0≤aD (2^12) - aD (2^m)by grind) f0
  have Kg:(aD (2^m) - 1)*(aD 5*σ)≤1:=by grind
  have ajG:1≤aD (2^12):=by rw[←gi,eE];decide
  have amz:1≤aD 5:=by rw[←gi,eE];decide
  have l9:=cb (show 0≤aD (2^12) - 1 by grind) f0
  have al3:=cb (show 0≤aD 5 - 1 by grind) (show 0≤σ by grind)
  have a6:(aD (2^(m+1)) - 1)*(aD 5*σ)=(aD (2^m) - 1)*(aD 5*σ)+(aD (2^m) - 1)*(aD 5*σ)+aD 5*σ:=by rw[a1];grind
  unfold k7 r3
  rw[show m+(k+1)=m+1+k by omega]
  have aA:=adb aH t0 ae (q - 3) (by omega)
  have al4:aD ((q - 3:Nat)+1)≤aD 16:=eE.2 (by omega)
  by_cases ar:(K.toNat / 2^(Q.toNat - q)) % 2=1
  ·rw[if_pos ar,if_pos ar]
   refine FO aH t0 ae ay tz Vu s1 k (q+1) (m+1) (by omega) (by omega) (by omega) (by rw[bA.Fl,bg,xy];grind) ?_
   rw[a6]
   have zq:un q=⟨ao (q - 3),RR.ay (q - 3)⟩:=by
    obtain⟨j,rfl⟩:∃j,q=j+3:=⟨q - 3,by omega⟩
    rfl
   refine acp (ε:=σ) bg (xy q) h ?_ d0 Kg (by grind) (by grind) (by grind) tz
   rw[zq]
   have KI:=cb (show 0≤aD 16 - aD ((q - 3:Nat)+1)by grind) (show 0≤aJ (3 - n)by grind)
   exact⟨aA.1.1.up (by grind),aA.2.1.up ay⟩
  ·rw[if_neg ar,if_neg ar]
   refine FO aH t0 ae ay tz Vu s1 k (q+1) (m+1) (by omega) (by omega) (by omega) bg (h.up ?_)
   rw[a6];grind
theorem Fs {a b:Nat} (h:a≤b):(2:Nat)^a≤2^b:=Nat.pow_le_pow_right (by decide) h
theorem ade {r n j:Nat} (aq:r≤144115188075855872) (aZ:a5 r≤14) (az:2*j+6≤n) (rP:16≤j):iz (rest (b6 r) (a5 r) n) (pt r) (aJ (16 - j)):=by
 have amA:=e4 (-(j:Int))
 have al5:aJ (1 - (j:Int))=aJ (-(j:Int))+aJ (-(j:Int)):=by rw[←jI];congr 1;omega
 by_cases h0:r=0
 ·subst h0
  rw[pC.1,pC.2]
  show iz p0 bA.one _
  exact F6.up (by have:=e4 (16 - j);grind)
 ·have aB:r<1152921504606846976:=by omega
  have bb:=sZ aB
  have fY:3≤a5 r:=by
   unfold a5
   rw[if_neg h0]
   have:=Ab h0
   have:2^bJ r≤2^57:=Nat.le_trans this aq
   have:=(Nat.pow_le_pow_iff_right (a:=2) (by decide)).1 this
   omega
  have bV:b6 r<2^(a5 r - 2):=by
   refine Nat.lt_of_mul_lt_mul_right (a:=2^(60 - a5 r)) ?_
   rw[bb,←Nat.pow_add,show a5 r - 2+(60 - a5 r)=58 by omega]
   exact Nat.lt_of_le_of_lt aq (by decide)
  have nS:pt r=(un (a5 r)).pow (b6 r):=by
   rw[←s3 (by omega) (b6 r),bb]
  have t6:aJ (6 - n)≤aJ (-(j:Int))*aJ (-(j:Int)):=by rw[←j8];exact nD (by omega)
  have t3:aJ (3 - n)≤aJ (-(j:Int)):=nD (by omega)
  have t4:aJ (4 - n)≤aJ (1 - (j:Int)):=nD (by omega)
  have t7:aD 16*aJ (3 - n)≤aJ (1 - (j:Int)):=by
   rw[show (16:Int)=2^4 by decide,g5,←j8];exact nD (by omega)
  have a9:aD 5≤aD (2^3):=eE.2 (by decide)
  have l9:=e4 (1 - (j:Int))
  have al6:=cb (show 0≤aD (2^3) - aD 5 by grind) (show 0≤aJ (1 - (j:Int))by grind)
  have KI:aD (2^3)*aJ (1 - (j:Int))*aD (2^12)=aJ (16 - j):=by
   rw[g5,g5,←j8,←j8];congr 1;omega
  have ajG:1≤aD (2^12):=by rw[←gi,eE];decide
  have n3:=cb (show 0≤(aD (2^3) - aD 5)*aJ (1 - (j:Int))by grind) (show 0≤aD (2^12)by grind)
  have c8:aJ (16 - j)≤1:=by rw[←Fp];exact nD (by omega)
  have s1:aD 5*aJ (1 - (j:Int))*aD (2^12)≤aJ (16 - j):=by grind
  have:=FO (K:=b6 r) (Q:=a5 r) (n:=n) (τ:=aJ (-(j:Int))) (σ:=aJ (1 - (j:Int))) (by omega) (by grind) t6 (by grind) t4 t7 (by grind) (a5 r - 2) 3 0 (p:=p0) (z:=bA.one) (by omega) (by omega) (by omega) bA.AP (by
   refine F6.up ?_
   have:aD (2^0)=1:=gi
   rw[this];grind)
  rw[Int.toNat_natCast,Int.toNat_natCast,FN _ _ _ (by omega),bA.one_mul,Nat.mod_eq_of_lt bV,←nS]at this
  have ek:((a5 r:Int) - 2).toNat=a5 r - 2:=by omega
  unfold rest
  rw[ek]
  refine this.up ?_
  have gw:aD (2^(0+(a5 r - 2)))≤aD (2^12):=by rw[g5,g5];exact nD (by omega)
  have f0:0≤aD 5*aJ (1 - (j:Int)):=cb (by rw[←j5,eE];decide) (by grind)
  have:=cb (show 0≤aD (2^12) - aD (2^(0+(a5 r - 2)))by grind) f0
  grind
def y8 (e:Nat) (z:bA):bA:=
 let z:=if e=1∨e=2∨e=5∨e=6 then ⟨z.dh,z.cM⟩else z
 let z:=if 2≤e∧e≤5 then ⟨-z.cM,z.dh⟩else z
 if 4≤e then ⟨z.cM,-z.dh⟩else z
theorem FP {a:Nat} (h:a<1152921504606846976):pt a=y8 (b7 a) (pt (cg a)):=by
 have he:=s0 h
 have h1:b7 a % 2=0→a=b7 a / 2*288230376151711744+cg a:=by intro k;unfold cg;rw[if_pos k];unfold b7 at*;omega
 have h2:b7 a % 2=1→a+cg a=(b7 a+1) / 2*288230376151711744:=by intro k;unfold cg;rw[if_neg (by omega)];unfold b7 at*;omega
 generalize b7 a=e at*
 generalize cg a=r at*
 rcases (by omega:e=0∨e=1∨e=2∨e=3∨e=4∨e=5∨e=6∨e=7)with rfl|rfl|rfl|rfl|rfl|rfl|rfl|rfl
 all_goals first
  |(have k:=h1 rfl;rw[k,PS])
  |(have k:=h2 rfl;rw[adN k])
 all_goals
  generalize pt r=z
  refine bA.ext' ?_ ?_<;>simp[y8,bA.pow,bA.mul,bA.one,bA.I,bA.x7]<;>grind
theorem Rp {a:Nat} {w:Int} {δ:R} (h:a<1152921504606846976) (aq:iz (rest (b6 (cg a)) (a5 (cg a)) w) (pt (cg a)) δ):iz (dt a w) (pt a) δ:=by
 rw[FP h]
 unfold dt y8
 simp only
 generalize b7 a=e
 generalize rest (b6 (cg a)) (a5 (cg a)) w=p at*
 generalize pt (cg a)=z at*
 have key:∀(c:Prop) [Decidable c] (p c9:db) (z gv:bA),iz p z δ→iz c9 gv δ→iz (if c then c9 else p) (if c then gv else z) δ:=by
  intro c _ p c9 z gv h1 h2
  split
  ·exact h2
  ·exact h1
 have bf:=key (e=1∨e=2∨e=5∨e=6) p ⟨p.s,p.c⟩ z ⟨z.dh,z.cM⟩ aq ⟨aq.2,aq.1⟩
 generalize (if e=1∨e=2∨e=5∨e=6 then (⟨p.s,p.c⟩:db)else p)=p1 at*
 generalize (if e=1∨e=2∨e=5∨e=6 then (⟨z.dh,z.cM⟩:bA)else z)=e9 at*
 have bd:=key (2≤e∧e≤5) p1 ⟨cZ p1.c,p1.s⟩ e9 ⟨-e9.cM,e9.dh⟩ bf ⟨AQ bf.1,bf.2⟩
 generalize (if 2≤e∧e≤5 then (⟨cZ p1.c,p1.s⟩:db)else p1)=cS at*
 generalize (if 2≤e∧e≤5 then (⟨-e9.cM,e9.dh⟩:bA)else e9)=gY at*
 exact key (4≤e) cS ⟨cS.c,cZ cS.s⟩ gY ⟨gY.cM,-gY.dh⟩ bd ⟨bd.1,AQ bd.2⟩
theorem Rq {a n j:Nat} (h:a<1152921504606846976) (aZ:a5 (cg a)≤14) (az:2*j+6≤n) (rP:16≤j):iz (dt a n) (pt a) (aJ (16 - j)):=
 Rp h (ade (u9 a) aZ az rP)
end RV.Dr
namespace RV.Dr
open RV RR
set_option linter.unusedSimpArgs false
set_option linter.unusedVariables false
set_option maxRecDepth 100000
def r4 (v:Nat):Nat→Bool
 |0=>true
 |j+1=>Nat.ble 2 ((v / 2^(256 - 24*(j+1))+1) % 16777216) && r4 v j
def o2:List (Nat×Nat):=[
 (81877371507464127617551201542979628307507432471243237061821853600756754782485,81877371507464127617551201542979628307507432471243237061821853600756754782485),
 (106977941273076885255401814408341967549158484705964476431625176369167556163398,44311714150060931561488076157189893527193699149339307236362825417981466611568),
 (113567176711097047325463768913859956330885371583230639589751637675741685910299,22589915976228276810931329007774019079103816782282772219569592289057374999743),
 (115234518678441148755077188541558550353083861527852106080951951399069052281697,11349609459827025386315054981497478700107540844022747970091458731335977254559),
 (115652612594735261630533212038080604071180833771132144218250487545714189690147,5681648524387955636478685845531689532533956344726492829850228781285907570647),
 (115757214824910463240241786217277123290913947822486683059320394325390740621288,2841680123118429179042206312730952958971823825043980564818000535596730057149),
 (115783370305955014316777807934221279643280619838252308828686504167567378588295,1420947056259223887622005787266528674645586023666841756453661507923851838400),
 (115789909483959279675297897520221195330071915391298345269851605683448755368793,710486902844773586087001815982426020273464248308757282291554189327087545694),
 (115791544297694671672312813634469512954494945145319019660330917306301005945095,355245123273584054955660074806873547895585988765475658249616332717393059455),
 (115791953002330670965576878911025023205077572892285116562727235753797976646712,177622770618560500788250455519631949866975377576964607859767826767188282242),
 (115792055178564805337587911453719191806704615442459411307051627393931309538222,88811411432012835054704271980476344794564024588133381836921961168012725810),
 (115792080722628034841334411734115293143326779353352816428150354406618894983668,44405708981348350781778236820611868195108407300371530322216200125730338270)]
def r5:List (Nat×Nat)→Nat→Nat→Bool
 |[],_,_=>true
 |(C,S)::l,X,Y=>r5 l X Y && (Nat.ble (Y*S) (X*C) && (r4 ((X*C - Y*S) / 2^256) 8 && (r4 ((X*S+Y*C) / 2^256) 8 && r5 l ((X*C - Y*S) / 2^256) ((X*S+Y*C) / 2^256))))
theorem adf:r5 o2 (2^256) 0=true:=by decide+kernel
def Vv (a b:Nat×Nat):Bool:=Nat.ble (b.1*b.1) ((2^256+a.1)*2^255) && (Nat.ble ((2^256+a.1+2)*2^255) ((b.1+2)*(b.1+2)) && (Nat.ble (b.2*b.2+2^255*(a.1+2)) (2^256*2^255) && Nat.ble (2^256*2^255) ((b.2+4096)*(b.2+4096)+2^255*a.1)))
def fr (i:Nat):Nat×Nat:=o2.getD i (0,0)
theorem aby:Nat.ble ((fr 0).1*(fr 0).1) (2^256*2^255)=true∧Nat.ble (2^256*2^255) (((fr 0).1+2)*((fr 0).1+2))=true∧(fr 0).2=(fr 0).1:=by decide+kernel
theorem acq:∀i,i<11→Vv (fr i) (fr (i+1))=true:=by decide+kernel
theorem adg:o2.length=12:=by decide+kernel
def jD (x:R) (V e:Nat):Prop:=aD V≤x*aJ 256+aD e∧x*aJ 256≤aD V+aD e
def r6 (x:R):Prop:=∀n:Nat,n≤160→∀z:Int,aD z+aJ (-49)≤x*aJ n∨x*aJ n+aJ (-49)≤aD z
theorem Rr {v:Nat} :∀{k j:Nat},r4 v k=true→j<k→2≤(v / 2^(256 - 24*(j+1))+1) % 16777216
 |k+1,j,h,az=>by
  simp only[r4,Bool.and_eq_true]at h
  by_cases e:j=k
  ·subst e;exact Nat.le_of_ble_eq_true h.1
  ·exact Rr h.2 (by omega)
theorem Rs {x:R} {V:Nat} (h:jD x V 67108864) (k:r4 V 8=true):r6 x:=by
 intro n aH z
 obtain⟨j,az,vI,yq⟩:∃j,j<8∧n≤24*j∧24*j<n+24:=⟨(n+23) / 24,by omega,by omega,by omega⟩
 have ar:=Rr k az
 obtain⟨s,ay⟩:∃s,s=256 - 24*(j+1):=⟨_,rfl⟩
 rw[←ay]at ar
 obtain⟨b,KJ⟩:∃b,b=V / 2^s:=⟨_,rfl⟩
 rw[←KJ]at ar
 have v1:b*2^s≤V:=by rw[KJ];exact Nat.div_mul_le_self V _
 have v2:V<(b+1)*2^s:=by
  rw[KJ,Nat.add_mul,Nat.one_mul]
  have:=Nat.div_add_mod V (2^s)
  have m:=Nat.mod_lt V (Nat.two_pow_pos s)
  rw[Nat.mul_comm]at this
  omega
 have bW:aD b*aJ s≤aD V:=by
  rw[←g5,←jJ,eE];exact_mod_cast v1
 have cy:aD V≤(aD b+1)*aJ s:=by
  rw[←g5,←gi,←g4,←jJ,eE]
  have:V≤(b+1)*2^s:=Nat.le_of_lt v2
  exact_mod_cast this
 obtain⟨h1,h2⟩:=h
 have es:aJ 256=aJ (24*j+24)*aJ s:=by rw[←j8];congr 1;omega
 rw[es]at h1 h2
 have ps:=e4 (-(s:Int))
 have ze:=oz s
 have amB:aD (67108864:Nat)*aJ (-(s:Int))≤aJ (-2):=by
  have:((67108864:Nat):Int)=2^26:=by decide
  rw[this,g5,←j8];exact nD (by omega)
 have bf:x*aJ (24*j+24)≤aD b+1+aJ (-2):=by
  have:=pB (a:=x*aJ (24*j+24)) (t:=aJ s) (s:=aJ (-(s:Int))) (B:=(aD b+1)*aJ s+aD (67108864:Nat)) (by grind) ze ps
  have e:((aD b+1)*aJ s+aD (67108864:Nat))*aJ (-(s:Int))=(aD b+1)*(aJ s*aJ (-(s:Int)))+aD (67108864:Nat)*aJ (-(s:Int)):=by grind
  rw[e,ze]at this
  grind
 have bd:aD b≤x*aJ (24*j+24)+aJ (-2):=by
  have:=pB (a:=aD b - x*aJ (24*j+24)) (t:=aJ s) (s:=aJ (-(s:Int))) (B:=aD (67108864:Nat)) (by grind) ze ps
  grind
 obtain⟨d,aC⟩:∃d:Nat,d=24*j+24 - n:=⟨_,rfl⟩
 have Y4:aJ (24*j+24)=aJ n*aJ d:=by rw[←j8];congr 1;omega
 have Ls:=e4 d
 have la:aJ (-49)*aJ d≤aJ (-2):=by rw[←j8];exact nD (by omega)
 rcases Std.le_total (a:=aD z+aJ (-49)) (b:=x*aJ n)with c|c
 ·exact .inl c
 rcases Std.le_total (a:=x*aJ n+aJ (-49)) (b:=aD z)with c'|c'
 ·exact .inr c'
 exfalso
 have gw:=cb (show 0≤aD z+aJ (-49) - x*aJ n by grind) (show 0≤aJ d by grind)
 have hG:=cb (show 0≤x*aJ n+aJ (-49) - aD z by grind) (show 0≤aJ d by grind)
 have se:aD z*aJ d=aD (z*2^d):=by rw[jJ,g5]
 have br:x*aJ (24*j+24)≤aD (z*2^d)+aJ (-2):=by rw[Y4,←se];grind
 have bw:aD (z*2^d)≤x*aJ (24*j+24)+aJ (-2):=by rw[Y4,←se];grind
 have a6:aJ (-2)+aJ (-2)=aJ (-1):=(jI (-2)).symm
 have a1:aJ (-1)+aJ (-1)=1:=(jI (-1)).symm
 have p1:=e4 (-1)
 have c8:aD b<aD (z*2^d)+1:=by grind
 have hP:aD (z*2^d)<aD b+1+1:=by grind
 rw[←gi,←g4,pO]at c8
 rw[←gi,←g4,←g4,pO]at hP
 have amC:(16777216:Int)∣z*2^d:=by
  refine Int.dvd_trans ?_ (Int.dvd_mul_left z (2^d))
  exact sH (a:=24) (by omega)
 omega
end RV.Dr
namespace RV.Dr
open RV RR
set_option linter.unusedSimpArgs false
set_option linter.unusedVariables false
set_option maxRecDepth 100000
theorem pE {a b:Nat} :aD (a:Int)≤aD (b:Int)↔a≤b:=by rw[eE];omega
theorem ln (a b:Nat):aD ((a+b:Nat):Int)=aD a+aD b:=by rw[Int.natCast_add,g4]
theorem kF (a b:Nat):aD ((a*b:Nat):Int)=aD a*aD b:=by rw[Int.natCast_mul,jJ]
theorem nh (n:Nat):aD ((2^n:Nat):Int)=aJ n:=by rw[Int.natCast_pow];exact g5 n
theorem Ft:aD ((1:Nat):Int)=1:=rfl
theorem adh {a b:Nat} (h:b≤a):aD ((a - b:Nat):Int)=aD a - aD b:=by rw[Int.natCast_sub h,A9]
theorem Fu (n:Nat):0≤aJ n:=by have:=e4 n;grind
theorem Tb:aJ 255=hf*aJ 256:=by
 have b:aJ 256=aJ 255+aJ 255:=jI 255
 have c:=ks
 have:hf*(aJ 255+aJ 255)=(hf+hf)*aJ 255:=by grind
 rw[b,this,c];grind
theorem age:aJ 256*aJ 255=hf*(aJ 256*aJ 256):=by rw[Tb];grind
theorem Di:∀i:Nat,i≤11→(aD (fr i).1≤ao i*aJ 256∧ao i*aJ 256≤aD (fr i).1+aD 2)∧(aD (fr i).2≤RR.ay i*aJ 256∧RR.ay i*aJ 256≤aD (fr i).2+aD 4096)
 |0,_=>by
  obtain⟨f1,f2,f3⟩:=aby
  have f1:=Nat.le_of_ble_eq_true f1
  have f2:=Nat.le_of_ble_eq_true f2
  rw[f3]
  generalize (fr 0).1=C at*
  rw[←pE,kF,kF,nh,nh]at f1
  rw[←pE,kF,kF,nh,nh,ln]at f2
  have f1:aD C*aD C≤aJ 256*aJ 255:=f1
  have f2:aJ 256*aJ 255≤(aD C+aD 2)*(aD C+aD 2):=f2
  have r:=kE (x:=hf) (by have:=l1;grind)
  have e:ao 0*ao 0=hf:=r.2
  have h0:0≤ao 0:=r.1
  have T:=Fu 256
  have a6:(ao 0*aJ 256)*(ao 0*aJ 256)=aJ 256*aJ 255:=by rw[age,←e];grind
  have amD:0≤aD C:=by rw[←j5,eE];omega
  have m7:=cb h0 T
  have br:aD C≤ao 0*aJ 256:=RR.fz m7 (by rw[a6];exact f1)
  have bw:ao 0*aJ 256≤aD C+aD 2:=RR.fz (by have:0≤aD 2:=(by rw[←j5,eE];decide);grind) (by rw[a6];exact f2)
  have l:aD 2≤aD 4096:=eE.2 (by decide)
  have ajH:RR.ay 0=ao 0:=rfl
  rw[ajH]
  exact⟨⟨br,bw⟩,br,by grind⟩
 |i+1,hi=>by
  obtain⟨⟨eR,eX⟩,-⟩:=Di i (by omega)
  have st:=acq i (by omega)
  unfold Vv at st
  simp only[Bool.and_eq_true]at st
  obtain⟨f1,f2,f3,f4⟩:=st
  have f1:=Nat.le_of_ble_eq_true f1
  have f2:=Nat.le_of_ble_eq_true f2
  have f3:=Nat.le_of_ble_eq_true f3
  have f4:=Nat.le_of_ble_eq_true f4
  generalize (fr i).1=C at*
  generalize (fr (i+1)).1=ak4 at*
  generalize (fr (i+1)).2=ak5 at*
  rw[←pE]at f1 f2 f3 f4
  simp only[kF,ln,nh]at f1 f2 f3 f4
  have k9:((2:Nat):Int)=2:=rfl
  have qx:((4096:Nat):Int)=4096:=rfl
  have Lt:((256:Nat):Int)=256:=rfl
  have Dy:((255:Nat):Int)=255:=rfl
  rw[Dy,Lt]at f1 f2
  rw[Dy,Lt]at f3 f4
  rw[k9]at f2 f3
  rw[qx]at f4
  have r:=Bk i
  have z:=l1
  have rc:=kE (x:=hf*(1+ao i)) (cb (by grind) (by grind))
  have rs:=kE (x:=hf*(1 - ao i)) (cb (by grind) (by grind))
  have Y1:ao (i+1)*ao (i+1)=hf*(1+ao i):=rc.2
  have es:RR.ay (i+1)*RR.ay (i+1)=hf*(1 - ao i):=rs.2
  have de:0≤ao (i+1):=rc.1
  have yJ:0≤RR.ay (i+1):=rs.1
  have T:=Fu 256
  rw[Lt]at T
  rw[Tb]at f1 f2 f3 f4
  have Vw:(ao (i+1)*aJ 256)*(ao (i+1)*aJ 256)=hf*aJ 256*(aJ 256+ao i*aJ 256):=by
   have:(ao (i+1)*aJ 256)*(ao (i+1)*aJ 256)=(ao (i+1)*ao (i+1))*(aJ 256*aJ 256):=by grind
   rw[this,Y1];grind
  have Vx:(RR.ay (i+1)*aJ 256)*(RR.ay (i+1)*aJ 256)=hf*aJ 256*(aJ 256 - ao i*aJ 256):=by
   have:(RR.ay (i+1)*aJ 256)*(RR.ay (i+1)*aJ 256)=(RR.ay (i+1)*RR.ay (i+1))*(aJ 256*aJ 256):=by grind
   rw[this,es];grind
  have b5:0≤hf*aJ 256:=cb (by grind) T
  have gw:=cb b5 (show 0≤ao i*aJ 256 - aD C by grind)
  have hG:=cb b5 (show 0≤aD C+aD 2 - ao i*aJ 256 by grind)
  have g:∀k:Int,0≤k→0≤aD k:=fun k ad=>by rw[←j5,eE];exact ad
  have cW:=g ak4 (by omega)
  have dy:=g ak5 (by omega)
  have fM:=g 2 (by omega)
  have ui:=g 4096 (by omega)
  refine⟨⟨RR.fz (cb de T) ?_,RR.fz (by grind) ?_⟩,RR.fz (cb yJ T) ?_,RR.fz (by grind) ?_⟩
  ·rw[Vw];grind
  ·rw[Vw];grind
  ·rw[Vx];grind
  ·rw[Vx];grind
theorem AW {x c:R} {X C e f:Nat} (ah: -1≤x∧x≤1) (ao: -1≤c∧c≤1) (h:jD x X e) (k:jD c C f):
 aD X*aD C≤x*c*(aJ 256*aJ 256)+(aD e*aJ 256+aJ 256*aD f+aD e*aD f)∧x*c*(aJ 256*aJ 256)≤aD X*aD C+(aD e*aJ 256+aJ 256*aD f+aD e*aD f):=by
 obtain⟨h1,h2⟩:=h
 obtain⟨br,bw⟩:=k
 have T:=Fu 256
 have T:0≤aJ 256:=T
 generalize aJ 256=t at*
 have cF:0≤aD e:=by rw[←j5,eE];omega
 have f0:0≤aD f:=by rw[←j5,eE];omega
 have cf:=mj (a:=x) (b:=t) (δ:=1) (ε:=t) (by grind) (by grind) (by grind) (by grind)
 have aY:=mj (a:=c) (b:=t) (δ:=1) (ε:=t) (by grind) (by grind) (by grind) (by grind)
 have p1:=mj (a:=aD X - x*t) (b:=aD C - c*t) (δ:=aD e) (ε:=aD f) (by grind) (by grind) (by grind) (by grind)
 have cS:=mj (a:=aD X - x*t) (b:=c*t) (δ:=aD e) (ε:=t) (by grind) (by grind) (by grind) (by grind)
 have g2:=mj (a:=x*t) (b:=aD C - c*t) (δ:=t) (ε:=aD f) (by grind) (by grind) (by grind) (by grind)
 have e:aD X*aD C=x*c*(t*t)+(aD X - x*t)*(aD C - c*t)+(aD X - x*t)*(c*t)+(x*t)*(aD C - c*t):=by grind
 rw[e]
 constructor<;>grind
theorem Rt {x:R} {N e:Nat} {E:R} (h1:aD N≤x*(aJ 256*aJ 256)+E) (h2:x*(aJ 256*aJ 256)≤aD N+E) (dQ:E+aJ 256≤aD e*aJ 256):jD x (N / 2^256) e:=by
 have a:=Nat.div_add_mod N (2^256)
 have b:=Nat.mod_lt N (Nat.two_pow_pos 256)
 obtain⟨q,aZ⟩:∃q,q=N / 2^256:=⟨_,rfl⟩
 rw[←aZ]at a⊢
 have br:q*2^256≤N:=by rw[Nat.mul_comm];omega
 have bw:N≤q*2^256+2^256:=by rw[Nat.mul_comm];omega
 rw[←pE,kF,nh]at br
 rw[←pE,ln,kF,nh]at bw
 have br:aD q*aJ 256≤aD N:=br
 have bw:aD N≤aD q*aJ 256+aJ 256:=bw
 have T:0<aJ 256:=e4 256
 have Lu:=oz 256
 have Y5:=e4 (-256)
 unfold jD
 generalize aJ 256=t at*
 generalize aJ (-256)=s at*
 have z:∀{a b:R},a*t≤b*t→a≤b:=fun {a b} h=>by
  have:=pB h Lu Y5
  rw[show b*t*s=b*(t*s)by grind,Lu]at this;grind
 clear a b aZ Lu Y5
 exact⟨z (by grind),z (by grind)⟩
theorem Sg {x:R} {V e e':Nat} (h:jD x V e) (l:e≤e'):jD x V e':=by
 obtain⟨h1,h2⟩:=h
 have:=pE.2 l
 exact⟨by grind,by grind⟩
theorem adU {x y:R} {e f:Nat} (he:e≤67108864) (hf:f≤4096) (e':Nat) (dQ:e'=e+e+8200):(aD e*aJ 256+aJ 256*aD f+aD e*aD f)+(aD e*aJ 256+aJ 256*aD f+aD e*aD f)+aJ 256≤aD e'*aJ 256:=by
 have f1:aD f≤aD (4096:Nat):=pE.2 hf
 have a1:aD e≤aD (67108864:Nat):=pE.2 he
 have cF:0≤aD e:=by rw[←j5,eE];omega
 have f0:0≤aD f:=by rw[←j5,eE];omega
 have T:0<aJ 256:=e4 256
 have p1:=cb cF (show 0≤aD (4096:Nat) - aD f by grind)
 have cS:=cb (show 0≤aD (67108864:Nat) - aD e by grind) (show 0≤aD (4096:Nat)by grind)
 have g2:=cb (show 0≤aD (4096:Nat) - aD f by grind) (show 0≤aJ 256 by grind)
 have c:aD (67108864:Nat)*aD (4096:Nat)≤aJ 256:=by
  rw[←kF,←show aD ((2^256:Nat):Int)=aJ 256 from nh 256,pE];decide
 rw[dQ]
 simp only[ln]
 have ajI:aD (8200:Nat)=aD (4096:Nat)+aD (4096:Nat)+aD (8:Nat):=by rw[←ln,←ln]
 have jY:aD (8:Nat)=1+1+(1+1)+(1+1+(1+1)):=by
  have h2:aD (2:Nat)=1+1:=by rw[←Ft,←ln]
  have aE:aD (4:Nat)=1+1+(1+1):=by rw[←h2,←ln]
  rw[←aE,←ln]
 rw[ajI,jY]
 grind
theorem OO {q e e' X Y:Nat} {z:bA} (aZ:3≤q) (mO:q≤14) (bg:z.hE=1) (ae:r5 (o2.drop (q - 3)) X Y=true) (ah:jD z.cM X e) (hy:jD z.dh Y e) (he:e≤67108864) (dQ:e'=e+e+8200):
 r5 (o2.drop (q+1 - 3)) X Y=true∧r4 ((X*(fr (q - 3)).1 - Y*(fr (q - 3)).2) / 2^256) 8=true∧r4 ((X*(fr (q - 3)).2+Y*(fr (q - 3)).1) / 2^256) 8=true∧
 jD (z.mul (un q)).cM ((X*(fr (q - 3)).1 - Y*(fr (q - 3)).2) / 2^256) e'∧jD (z.mul (un q)).dh ((X*(fr (q - 3)).2+Y*(fr (q - 3)).1) / 2^256) e'∧
 r5 (o2.drop (q+1 - 3)) ((X*(fr (q - 3)).1 - Y*(fr (q - 3)).2) / 2^256) ((X*(fr (q - 3)).2+Y*(fr (q - 3)).1) / 2^256)=true:=by
 have aB:q - 3<o2.length:=by rw[adg];omega
 have aC:o2.drop (q - 3)=fr (q - 3)::o2.drop (q+1 - 3):=by
  rw[List.drop_eq_getElem_cons aB,show q+1 - 3=q - 3+1 by omega]
  unfold fr
  rw[List.getD_eq_getElem?_getD,List.getElem?_eq_getElem aB];rfl
 have a2:=Di (q - 3) (by omega)
 have zq:un q=⟨ao (q - 3),RR.ay (q - 3)⟩:=by
  obtain⟨j,rfl⟩:∃j,q=j+3:=⟨q - 3,by omega⟩
  rfl
 have y9:=Av (xy q)
 have Dj:=Av bg
 rw[aC]at ae
 rw[zq]at y9⊢
 generalize fr (q - 3)=zo at*
 obtain⟨C,S⟩:=zo
 simp only[r5,Bool.and_eq_true]at ae
 obtain⟨t1,t2,t3,t4,t5⟩:=ae
 have t2:=Nat.le_of_ble_eq_true t2
 generalize ao (q - 3)=c at*
 generalize RR.ay (q - 3)=s at*
 simp only at*
 obtain⟨⟨bB,cu⟩,s1,s2⟩:=a2
 have vJ:aD 2≤aD 4096:=eE.2 (by decide)
 have ac:jD c C 4096:=⟨by have:0≤aD ((4096:Nat):Int):=(by rw[←j5,eE];decide);grind,by show _≤_+aD 4096;grind⟩
 have Y6:jD s S 4096:=⟨by have:0≤aD ((4096:Nat):Int):=(by rw[←j5,eE];decide);grind,by show _≤_+aD 4096;grind⟩
 have gw:=AW Dj.1 y9.1 ah ac
 have hG:=AW Dj.2 y9.2 hy Y6
 have oa:=AW Dj.1 y9.2 ah Y6
 have pd:=AW Dj.2 y9.1 hy ac
 have b7:=adU (x:=c) (y:=s) he (Nat.le_refl 4096) e' dQ
 generalize aD e*aJ 256+aJ 256*aD (4096:Nat)+aD e*aD (4096:Nat)=E at*
 refine⟨t1,t3,t4,?_,?_,t5⟩
 ·refine Rt (E:=E+E) ?_ ?_ b7<;>rw[adh t2,kF,kF]<;>simp only[bA.mul]<;>grind
 ·refine Rt (E:=E+E) ?_ ?_ b7<;>rw[ln,kF,kF]<;>simp only[bA.mul]<;>grind
def tt (z:bA):Prop:=r6 z.cM∧r6 z.dh
theorem adi {K Q:Nat} (bV:K % 2=1) (cn:Q≤14):∀(k q m e:Nat) (X Y:Nat) (z:bA),3≤q→q+(k+1)=Q+1→m+k≤11→e≤(2^m - 1)*8200→r5 (o2.drop (q - 3)) X Y=true→jD z.cM X e→jD z.dh Y e→z.hE=1→tt (r3 K Q (k+1) q z):=by
 intro k
 induction k with
 |zero=>
  intro q m e X Y z aZ ajJ hm he ae ah hy bg
  obtain⟨h1,h2,al,aE,aI,-⟩:=OO aZ (by omega) bg ae ah hy (e':=e+e+8200) (by have:=Fs (show m≤11 by omega);omega) rfl
  have ar:K / 2^(Q - q) % 2=1:=by rw[show Q - q=0 by omega,Nat.pow_zero,Nat.div_one];exact bV
  unfold r3
  rw[if_pos ar]
  show tt (z.mul (un q))
  have nR:=Fs (show m≤11 by omega)
  have l:e+e+8200≤67108864:=by omega
  exact⟨Rs (Sg aE l) h2,Rs (Sg aI l) al⟩
 |succ k cm=>
  intro q m e X Y z aZ ajJ hm he ae ah hy bg
  obtain⟨h1,h2,al,aE,aI,aM⟩:=OO aZ (by omega) bg ae ah hy (e':=e+e+8200) (by have:=Fs (show m≤11 by omega);omega) rfl
  unfold r3
  by_cases ar:K / 2^(Q - q) % 2=1
  ·rw[if_pos ar]
   refine cm (q+1) (m+1) (e+e+8200) _ _ _ (by omega) (by omega) (by omega) ?_ aM aE aI (by rw[bA.Fl,bg,xy];grind)
   rw[Nat.pow_succ]
   have:=Nat.two_pow_pos m
   omega
  ·rw[if_neg ar]
   refine cm (q+1) (m+1) e X Y z (by omega) (by omega) (by omega) ?_ h1 ah hy bg
   rw[Nat.pow_succ]
   have:=Nat.two_pow_pos m
   omega
theorem acr {r:Nat} (aq:r≤144115188075855872) (h0:r≠0) (aZ:a5 r≤14):tt (pt r):=by
 have aB:r<1152921504606846976:=by omega
 have bb:=sZ aB
 have fY:3≤a5 r:=by
  unfold a5
  rw[if_neg h0]
  have:=Ab h0
  have:2^bJ r≤2^57:=Nat.le_trans this aq
  have:=(Nat.pow_le_pow_iff_right (a:=2) (by decide)).1 this
  omega
 have bV:b6 r<2^(a5 r - 2):=by
  refine Nat.lt_of_mul_lt_mul_right (a:=2^(60 - a5 r)) ?_
  rw[bb,←Nat.pow_add,show a5 r - 2+(60 - a5 r)=58 by omega]
  exact Nat.lt_of_le_of_lt aq (by decide)
 have nS:pt r=(un (a5 r)).pow (b6 r):=by
  rw[←s3 (by omega) (b6 r),bb]
 have odd:b6 r % 2=1:=(hJ h0).2
 have one:aD ((2^256:Nat):Int)=aJ 256:=nh 256
 have h:=adi (K:=b6 r) (Q:=a5 r) odd aZ (a5 r - 3) 3 0 0 (2^256) 0 bA.one (by omega) (by omega) (by omega) (by omega) (by rw[Nat.sub_self,List.drop_zero];exact adf)
  (by
   unfold jD bA.one
   have:aD ((0:Nat):Int)=0:=rfl
   rw[one,this];grind)
  (by
   unfold jD bA.one
   have:aD ((0:Nat):Int)=0:=rfl
   rw[this];grind) bA.AP
 rw[show a5 r - 3+1=a5 r - 2 by omega,FN _ _ _ (by omega),bA.one_mul,Nat.mod_eq_of_lt bV,←nS]at h
 exact h
end RV.Dr
namespace RV.Dr
open RV RR
set_option linter.unusedSimpArgs false
set_option linter.unusedVariables false
set_option maxRecDepth 100000
theorem OP {z:Int} {x:R} {E:Int} (h:x=aD z*aJ (-E)):x*aJ E=aD z:=by
 have:=oz E
 rw[h,show aD z*aJ (-E)*aJ E=aD z*(aJ E*aJ (-E))by grind,this];grind
theorem Mg {x:a3} (ok:x.ok) (n:Nat):(fN x n).ok∧fw (-n) (fN x n)∧∃z:Int,bt (fN x n)=aD z*aJ (-n)∧aD z≤bt x*aJ n∧bt x*aJ n<aD z+1:=by
 unfold fN
 by_cases h:0≤x.e+n
 ·rw[if_pos h]
  have l:fw (-n) x:=fun _=>by omega
  refine⟨ok,l,x.V (-n),kS l,?_⟩
  have e:=OP (kS l)
  rw[e]
  have:=uN
  grind
 ·rw[if_neg h]
  refine⟨lA ..,j9 (Int.le_refl _),?_⟩
  obtain⟨k,ad⟩:∃k,k=(-x.e - n).toNat:=⟨_,rfl⟩
  rw[←ad]
  have br:1≤k:=by omega
  have aA:bt x*aJ n=aD (dn x.neg x.m)*aJ (-(k:Int)):=by
   have l:fw x.e x:=fun _=>Int.le_refl _
   rw[kS l]
   have:x.V x.e=dn x.neg x.m:=by unfold a3.V;rw[Int.sub_self];simp
   rw[this,show aD (dn x.neg x.m)*aJ x.e*aJ n=aD (dn x.neg x.m)*(aJ x.e*aJ n)by grind,←j8]
   congr 2;omega
  obtain⟨z,bg⟩:∃z:Int,z=dn x.neg (x.m / 2^k+(if x.neg=true then 1 else 0)):=⟨_,rfl⟩
  have a1:bt (mk x.neg (x.m / 2^k+(if x.neg=true then 1 else 0)) (-n))=aD z*aJ (-n):=by
   have:=oH (E:= -n) x.neg (x.m / 2^k+(if x.neg=true then 1 else 0)) (Int.le_refl (-(n:Int)))
   rw[kS (E:= -n) (j9 (Int.le_refl _)),this,bg,Int.sub_self];simp
  refine⟨z,a1,?_⟩
  rw[aA]
  have amE:=e4 (k:Int)
  have Vy:=e4 (-(k:Int))
  have Y7:=oz (k:Int)
  have key:z*2^k≤dn x.neg x.m∧dn x.neg x.m<(z+1)*2^k:=by
   have aC:=Nat.div_add_mod x.m (2^k)
   have hm:=Nat.mod_lt x.m (Nat.two_pow_pos k)
   have c:((2^k:Nat):Int)=2^k:=Int.natCast_pow 2 k
   have mI:((2:Int)^k)*((x.m / 2^k:Nat):Int)+((x.m % 2^k:Nat):Int)=x.m:=by rw[←c];exact_mod_cast aC
   cases aH:x.neg with
   |false=>
    rw[aH]at bg
    have KK:z=((x.m / 2^k:Nat):Int):=by rw[bg];simp[dn]
    rw[KK]
    unfold dn
    simp only[Bool.false_eq_true,if_false]
    rw[Int.mul_comm,Int.add_mul,Int.one_mul,Int.mul_comm ((x.m / 2^k:Nat):Int)]
    omega
   |true=>
    rw[aH]at bg
    have h0:x.m≠0:=fun e=>by have:=(ok.1 e).1;rw[this]at aH;cases aH
    have bh:=ok.2 h0
    have aq:x.m % 2^k≠0:=fun e=>by
     have:=Nat.mod_mod_of_dvd x.m (show 2∣2^k from ⟨2^(k - 1),by rw[←Nat.pow_succ'];congr 1;omega⟩)
     rw[e]at this
     omega
    have KK:z= -(((x.m / 2^k:Nat):Int)+1):=by rw[bg];simp[dn]
    rw[KK]
    unfold dn
    simp only[if_true]
    have a6: -(((x.m / 2^k:Nat):Int)+1)*2^k= -(2^k*((x.m / 2^k:Nat):Int)+2^k):=by grind
    have cU:(-(((x.m / 2^k:Nat):Int)+1)+1)*2^k= -(2^k*((x.m / 2^k:Nat):Int)):=by grind
    rw[a6,cU]
    omega
  obtain⟨zp,ak6⟩:=key
  rw[←eE,jJ,g5]at zp
  rw[←pO,jJ,g5,g4,gi]at ak6
  constructor
  ·exact pB zp Y7 Vy
  ·have:=px (show 0<(aD z+1)*aJ k - aD (dn x.neg x.m)by grind) Vy
   have e:((aD z+1)*aJ k - aD (dn x.neg x.m))*aJ (-(k:Int))=(aD z+1)*(aJ k*aJ (-(k:Int))) - aD (dn x.neg x.m)*aJ (-(k:Int)):=by grind
   rw[e,Y7]at this
   grind
def m2 (I:bD) (x:R) (n:Nat):Prop:=bD.ok I∧fw (-n) I.lo∧fw (-n) I.hi∧∃z w:Int,bt I.lo=aD z*aJ (-n)∧bt I.hi=aD w*aJ (-n)∧aD z≤x*aJ n∧x*aJ n<aD z+1∧x*aJ n≤aD w∧aD w<x*aJ n+1
theorem m2.uniq {I J:bD} {x:R} {n:Nat} (h:m2 I x n) (k:m2 J x n):I=J:=by
 obtain⟨ok,_,_,z,w,h1,h2,al,aE,aI,aM⟩:=h
 obtain⟨Vz,_,_,gv,w',br,bw,c3,gW,ku,sd⟩:=k
 have a1:z=gv:=by
  have a:aD z<aD gv+1:=by grind
  have b:aD gv<aD z+1:=by grind
  rw[←gi,←g4,pO]at a b
  omega
 have a6:w=w':=by
  have a:aD w<aD w'+1:=by grind
  have b:aD w'<aD w+1:=by grind
  rw[←gi,←g4,pO]at a b
  omega
 have a:=Rl ok.1 Vz.1 (by rw[h1,br,a1])
 have b:=Rl ok.2 Vz.2 (by rw[h2,bw,a6])
 cases I;cases J
 simp only at a b
 rw[a,b]
theorem z0 {i:bD} (ok:bD.ok i) (n:Nat):bD.ok (eo i n)∧fw (-n) (eo i n).lo∧fw (-n) (eo i n).hi∧∃z w:Int,bt (eo i n).lo=aD z*aJ (-n)∧bt (eo i n).hi=aD w*aJ (-n)∧
 (aD z≤bt i.lo*aJ n∧bt i.lo*aJ n<aD z+1)∧(bt i.hi*aJ n≤aD w∧aD w<bt i.hi*aJ n+1)∧(fK i n=true↔w≤z+1)∧(tY i n=true↔i.lo=i.hi∨w≤z+1):=by
 obtain⟨eR,eX,z,l7,n6,ak7⟩:=Mg ok.1 n
 obtain⟨cf,aY,w,aW,aU,a9⟩:=Mg (w4 ok.2) n
 rw[xm]at aU a9
 have a6:bt (eo i n).hi=aD (-w)*aJ (-n):=by
  show bt (dI _)=_
  rw[xm,aW,jK];grind
 have wd:bt (pN (eo i n))=aD (-w - z)*aJ (-n):=by
  unfold pN
  rw[A6,xm,a6]
  show _+ -bt (fN i.lo n)=_
  rw[l7,A9];grind
 have n5:=e4 (n:Int)
 have ajK:=e4 (-(n:Int))
 have one:bt d1=1:=by have:=vd;unfold ew i1 at this;grind
 have iV:bt (hQ (-n))=aJ (-n):=by
  rw[kS (E:= -n) (fun _=>Int.le_refl _)]
  have:(hQ (-n)).V (-n)=1:=by unfold a3.V hQ dn;rw[Int.sub_self];rfl
  rw[this,gi];grind
 have bB:fK i n=true↔-w≤z+1:=by
  unfold fK
  rw[decide_eq_true_iff,Bl,w8,wd,one]
  have e:aD (-w - z)*aJ (-n)*aJ n=aD (-w - z):=OP rfl
  rw[e,←gi,eE];omega
 have cu:tY i n=true↔i.lo=i.hi∨-w≤z+1:=by
  unfold tY
  rw[Bool.or_eq_true,decide_eq_true_iff,decide_eq_true_iff,Bl,wd,iV]
  have:aD (-w - z)*aJ (-n)≤aJ (-n)↔-w≤z+1:=by
   rw[show -w≤z+1↔-w - z≤1 by omega,←eE,gi]
   constructor
   ·intro h
    refine Std.not_lt.1 fun k=> ?_
    have:=px (show 0<aD (-w - z) - 1 by grind) ajK
    grind
   ·intro h
    have:=cb (show 0≤1 - aD (-w - z)by grind) (show 0≤aJ (-n)by grind)
    grind
  rw[this]
 exact⟨⟨eR,w4 cf⟩,eX,aY,z,-w,l7,a6,⟨n6,ak7⟩,⟨by rw[jK];grind,by rw[jK];grind⟩,bB,cu⟩
theorem Ru {i:bD} (ok:bD.ok i) (n:Nat):tY i n=fK i n:=by
 obtain⟨_,_,_,z,w,_,_,⟨h1,h2⟩,⟨al,aE⟩,bB,cu⟩:=z0 ok n
 rw[Bool.eq_iff_iff,bB,cu]
 constructor
 ·rintro(e|e)
  ·rw[e]at h1 h2
   have a:aD w<aD z+1+1:=by grind
   rw[←gi,←g4,←g4,pO]at a
   omega
  ·exact e
 ·exact .inr
theorem Ni {i:bD} {x δ:R} {n:Nat} (ok:bD.ok i) (aH:n≤160) (h:ew i x δ) (g:r6 x) (k:fK i n=true):m2 (eo i n) x n:=by
 obtain⟨o,c8,hP,z,w,a1,a6,⟨h1,h2⟩,⟨al,aE⟩,bB,_⟩:=z0 ok n
 have kw:=bB.1 k
 obtain⟨eR,eX,_,_⟩:=h
 have p:=e4 (n:Int)
 have ajL:=e4 (-49)
 have gw:=cb (show 0≤x - bt i.lo by grind) (show 0≤aJ n by grind)
 have hG:=cb (show 0≤bt i.hi - x by grind) (show 0≤aJ n by grind)
 have al7:aD w≤aD z+1:=by rw[←gi,←g4,eE];exact kw
 have cW:=g n aH z
 have dy:=g n aH w
 refine⟨o,c8,hP,z,w,a1,a6,by grind,?_,by grind,?_⟩
 ·grind
 ·grind
theorem Rv {i:bD} {x δ:R} {n:Nat} (ok:bD.ok i) (aH:n≤160) (h:ew i x δ) (g:r6 x) (aC:δ*aJ n≤aJ (-50)):fK i n=true:=by
 obtain⟨o,c8,hP,z,w,a1,a6,⟨h1,h2⟩,⟨al,aE⟩,bB,_⟩:=z0 ok n
 refine bB.2 (Int.not_lt.1 fun k=> ?_)
 obtain⟨eR,eX,l7,n6⟩:=h
 have p:=e4 (n:Int)
 have UW:=e4 (-50)
 have al8:aJ (-49)=aJ (-50)+aJ (-50):=by have:=jI (-50);rwa [show (-50:Int)+1= -49 by decide]at this
 have dM:aD z+1+1≤aD w:=by rw[←gi,←g4,←g4,eE];omega
 have gw:=cb (show 0≤bt i.lo+δ - x by grind) (show 0≤aJ n by grind)
 have hG:=cb (show 0≤x+δ - bt i.hi by grind) (show 0≤aJ n by grind)
 have cW:=g n aH (z+1)
 rw[g4,gi]at cW
 grind
theorem zN {i:bD} {n:Nat} {x:R} {k:Int} (ok:bD.ok i) (h:ew i x 0) (ah:x=aD k):fK i n=true∧m2 (eo i n) x n:=by
 obtain⟨o,c8,hP,z,w,a1,a6,⟨h1,h2⟩,⟨al,aE⟩,bB,_⟩:=z0 ok n
 obtain⟨eR,eX,l7,n6⟩:=h
 have cf:bt i.lo=x:=by grind
 have aY:bt i.hi=x:=by grind
 rw[cf]at h1 h2
 rw[aY]at al aE
 have ex:x*aJ n=aD (k*2^n):=by rw[ah,jJ,g5]
 have ug:=uN
 refine⟨bB.2 ?_,o,c8,hP,z,w,a1,a6,h1,h2,al,aE⟩
 have:aD w<aD z+1+1:=by grind
 rw[←gi,←g4,←g4,pO]at this
 omega
end RV.Dr
namespace RV.Dr
open RV RR
set_option linter.unusedSimpArgs false
set_option linter.unusedVariables false
set_option maxRecDepth 100000
theorem Rw {a:Nat} (h:a<1152921504606846976):a5 a≤14↔a % 70368744177664=0:=by
 by_cases h0:a=0
 ·subst h0;exact⟨fun _=>rfl,fun _=>by rw[pC.2];omega⟩
 ·have bg:=B0 h0 h
  have e:a5 a=60 - bJ a:=by unfold a5;rw[if_neg h0]
  have ay:=(hJ h0).1
  constructor
  ·intro k
   have:70368744177664∣a:=by
    rw[←ay]
    refine Nat.dvd_trans ?_ (Nat.dvd_mul_left _ _)
    exact Nat.pow_dvd_pow 2 (show 46≤bJ a by omega)
   omega
  ·intro k
   have:=Oy (k:=46) h0 (by exact k)
   omega
theorem uV {a:Nat} (h:a<1152921504606846976) (aZ:a5 a≤14):a5 (cg a)≤14:=by
 rw[Rw h]at aZ
 rw[Rw (by have:=u9 a;omega)]
 unfold cg b7
 split<;>omega
theorem uW {a:Nat} (aZ:a5 (cg a)≤14) {w:Int} (hw:0≤w) (g9:w≤800):(dt a w).win (-20000) 200:=by
 have aq:=FK (K:=b6 (cg a)) (Q:=a5 (cg a)) (by omega) hw g9
 unfold dt
 simp only
 generalize rest (b6 (cg a)) (a5 (cg a)) w=p at*
 generalize b7 a=e
 have key:∀(c:Prop) [Decidable c] (p c9:db),p.win (-20000) 200→c9.win (-20000) 200→(if c then c9 else p).win (-20000) 200:=by
  intro c _ p c9 h1 h2
  split
  ·exact h2
  ·exact h1
 have bf:=key (e=1∨e=2∨e=5∨e=6) p ⟨p.s,p.c⟩ aq ⟨aq.2,aq.1⟩
 generalize (if e=1∨e=2∨e=5∨e=6 then (⟨p.s,p.c⟩:db)else p)=p1 at*
 have bd:=key (2≤e∧e≤5) p1 ⟨cZ p1.c,p1.s⟩ bf ⟨ll bf.1,bf.2⟩
 generalize (if 2≤e∧e≤5 then (⟨cZ p1.c,p1.s⟩:db)else p1)=cS at*
 exact key (4≤e) cS ⟨cS.c,cZ cS.s⟩ bd ⟨bd.1,ll bd.2⟩
theorem r6.neg {x:R} (h:r6 x):r6 (-x):=by
 intro n aH z
 have:=h n aH (-z)
 rw[jK]at this
 grind
theorem Rx {a:Nat} (h:a<1152921504606846976) (h0:cg a≠0) (aZ:a5 (cg a)≤14):tt (pt a):=by
 rw[FP h]
 have aq:=acr (u9 a) h0 aZ
 generalize b7 a=e
 generalize pt (cg a)=z at*
 unfold y8
 simp only
 have key:∀(c:Prop) [Decidable c] (z gv:bA),tt z→tt gv→tt (if c then gv else z):=by
  intro c _ z gv h1 h2
  split
  ·exact h2
  ·exact h1
 have bf:=key (e=1∨e=2∨e=5∨e=6) z ⟨z.dh,z.cM⟩ aq ⟨aq.2,aq.1⟩
 generalize (if e=1∨e=2∨e=5∨e=6 then (⟨z.dh,z.cM⟩:bA)else z)=e9 at*
 have bd:=key (2≤e∧e≤5) e9 ⟨-e9.cM,e9.dh⟩ bf ⟨bf.1.neg,bf.2⟩
 generalize (if 2≤e∧e≤5 then (⟨-e9.cM,e9.dh⟩:bA)else e9)=gY at*
 exact key (4≤e) gY ⟨gY.cM,-gY.dh⟩ bd ⟨bd.1,bd.2.neg⟩
def za (z:bA):Prop:=(∃k:Int,z.cM=aD k)∧∃k:Int,z.dh=aD k
theorem OQ {a:Nat} (h:a<1152921504606846976) (h0:cg a=0):za (pt a):=by
 rw[FP h,h0,PR]
 generalize b7 a=e
 unfold y8
 simp only
 have key:∀(c:Prop) [Decidable c] (z gv:bA),za z→za gv→za (if c then gv else z):=by
  intro c _ z gv h1 h2
  split
  ·exact h2
  ·exact h1
 have Dp:∀{x:R},(∃k:Int,x=aD k)→∃k:Int,-x=aD k:=fun⟨k,e⟩=>⟨-k,by rw[jK,e]⟩
 have aq:za bA.one:=⟨⟨1,rfl⟩,0,rfl⟩
 generalize bA.one=z at*
 have bf:=key (e=1∨e=2∨e=5∨e=6) z ⟨z.dh,z.cM⟩ aq ⟨aq.2,aq.1⟩
 generalize (if e=1∨e=2∨e=5∨e=6 then (⟨z.dh,z.cM⟩:bA)else z)=e9 at*
 have bd:=key (2≤e∧e≤5) e9 ⟨-e9.cM,e9.dh⟩ bf ⟨Dp bf.1,bf.2⟩
 generalize (if 2≤e∧e≤5 then (⟨-e9.cM,e9.dh⟩:bA)else e9)=gY at*
 exact key (4≤e) gY ⟨gY.cM,-gY.dh⟩ bd ⟨bd.1,Dp bd.2⟩
theorem Nj {a:Nat} {w:Int} (h:a<1152921504606846976) (h0:cg a=0):iz (dt a w) (pt a) 0:=by
 refine Rp h ?_
 rw[h0,pC.1,pC.2]
 exact F6
theorem Sh {lo hi:Int} {p:db} (h:p.win lo hi):db.ok p:=⟨sP h.1,sP h.2⟩
theorem told {a n:Nat} (h:a<1152921504606846976) (aZ:a5 a≤14) (aH:n≤160) {w:Nat} (hw:38≤w) (g9:w≤800):
 (fK (dt a w).c n=true→m2 (eo (dt a w).c n) (pt a).cM n)∧(fK (dt a w).s n=true→m2 (eo (dt a w).s n) (pt a).dh n):=by
 have iR:=uV h aZ
 have ok:=Sh (uW (a:=a) iR (w:=w) (by omega) (by omega))
 by_cases h0:cg a=0
 ·have p:=Nj (w:=w) h h0
  obtain⟨⟨k,e⟩,dM,e'⟩:=OQ h h0
  exact⟨fun _=>(zN ok.1 p.1 e).2,fun _=>(zN ok.2 p.2 e').2⟩
 ·have p:=Rq (n:=w) (j:=16) h iR (by omega) (by omega)
  have g:=Rx h h0 iR
  exact⟨Ni ok.1 aH p.1 g.1,Ni ok.2 aH p.2 g.2⟩
theorem abz {a n:Nat} (h:a<1152921504606846976) (aZ:a5 a≤14) (aH:n≤160) {w:Nat} (hw:2*n+138≤w∨cg a=0) (g9:w≤800):fK (dt a w).c n=true∧fK (dt a w).s n=true:=by
 have iR:=uV h aZ
 have ok:=Sh (uW (a:=a) iR (w:=w) (by omega) (by omega))
 by_cases h0:cg a=0
 ·have p:=Nj (w:=w) h h0
  obtain⟨⟨k,e⟩,dM,e'⟩:=OQ h h0
  exact⟨(zN ok.1 p.1 e).1,(zN ok.2 p.2 e').1⟩
 ·have hw:=hw.resolve_right h0
  have p:=Rq (n:=w) (j:=n+66) h iR (by omega) (by omega)
  have g:=Rx h h0 iR
  have d:aJ (16 - (n+66:Nat))*aJ n≤aJ (-50):=by rw[←j8];exact nD (by omega)
  exact⟨Rv ok.1 aH p.1 g.1 d,Rv ok.2 aH p.2 g.2 d⟩
theorem adj {a:Nat} (h:a<1152921504606846976) (aZ:a5 a≤2):cg a=0:=by
 by_cases h0:a=0
 ·subst h0;rfl
 ·have e:a5 a=60 - bJ a:=by unfold a5;rw[if_neg h0]
  have ay:=(hJ h0).1
  have:288230376151711744∣a:=by
   rw[←ay]
   refine Nat.dvd_trans ?_ (Nat.dvd_mul_left _ _)
   exact Nat.pow_dvd_pow 2 (show 58≤bJ a by omega)
  unfold cg b7
  split<;>omega
theorem Aw {a n:Nat} (h:a<1152921504606846976) (aZ:a5 a≤14) (aH:n≤160):fK (dt a ((n:Int)+2*a5 a+40+64*4)).c n=true∧fK (dt a ((n:Int)+2*a5 a+40+64*4)).s n=true:=by
 have:=abz (w:=n+2*a5 a+40+64*4) h aZ aH (by
  by_cases h2:a5 a≤2
  ·exact .inr (adj h h2)
  ·exact .inl (by omega)) (by omega)
 rwa [show ((n+2*a5 a+40+64*4:Nat):Int)=(n:Int)+2*a5 a+40+64*4 by omega]at this
def ja (b:Bool) (p:db):bD:=if b=true then p.s else p.c
def gV (b:Bool) (a:Nat) (n:Int):Nat→Int→bD
 |0,w=>eo (ja b (dt a w)) n
 |k+1,w=>if fK (ja b (dt a w)) n=true then eo (ja b (dt a w)) n else gV b a n k (w+64)
def fC (b:Bool) (a:Nat) (n:Int):bD:=gV b a n 4 (n+2*a5 a+40)
noncomputable def qE (b:Bool) (a:Nat):R:=if b=true then (pt a).dh else (pt a).cM
theorem OR {b:Bool} {a n:Nat} (h:a<1152921504606846976) (aZ:a5 a≤14) (aH:n≤160):∀(k m:Nat),m+k=4→m2 (gV b a n k ((n:Int)+2*a5 a+40+64*m)) (qE b a) n
 |0,m,hm=>by
  obtain rfl:m=4:=by omega
  have aE:=Aw h aZ aH
  have ae:=told (w:=n+2*a5 a+40+64*4) h aZ aH (by omega) (by omega)
  rw[show ((n+2*a5 a+40+64*4:Nat):Int)=(n:Int)+2*a5 a+40+64*4 by omega]at ae
  cases b
  ·exact ae.1 aE.1
  ·exact ae.2 aE.2
 |k+1,m,hm=>by
  have ae:=told (w:=n+2*a5 a+40+64*m) h aZ aH (by omega) (by omega)
  rw[show ((n+2*a5 a+40+64*m:Nat):Int)=(n:Int)+2*a5 a+40+64*m by omega]at ae
  unfold gV
  split
  ·rename_i ao
   cases b
   ·exact ae.1 ao
   ·exact ae.2 ao
  ·have:=OR (b:=b) h aZ aH k (m+1) (by omega)
   rwa [show (n:Int)+2*a5 a+40+64*((m+1:Nat):Int)=(n:Int)+2*a5 a+40+64*m+64 by omega]at this
theorem abA {b:Bool} {a n:Nat} (h:a<1152921504606846976) (aZ:a5 a≤14) (aH:n≤160):m2 (fC b a n) (qE b a) n:=by
 have:=OR (b:=b) h aZ aH 4 0 (by omega)
 rwa [show (n:Int)+2*a5 a+40+64*((0:Nat):Int)=(n:Int)+2*a5 a+40 by omega]at this
end RV.Dr
namespace RV.Dr
open Go RV
set_option linter.unusedSimpArgs false
set_option linter.unusedVariables false
set_option maxRecDepth 100000
set_option maxHeartbeats 4000000
def ua (b:Bool):Nat:=if b=true then 83 else 79
def l2:bq where
 pre:=fun ds=>∃(K:Int) (Q n:Nat) (b:Bool),ds=[cl K Q,.int .i64 n,.fn (ua b) [] []]∧Q≤60∧a5 (an K Q)≤14∧n≤160
 res:=fun ds=>match ds with
  |[.agg [.int _ K,.int _ Q],.int _ n,.fn f _ _]=>aQ (fC (decide (f=83)) (an K Q.toNat) n)
  |_=> .nilp
def mc (K Q n:Int) (b:Bool) (w:Int) (s:St):Prop:=s.af 1= .d (.int .i64 n)∧s.af 2= .d (.fn (ua b) [] [])∧s.af 3= .box 3 0∧s.aw 3=some ⟨false,false,.cells [.d (.int .i64 K),.d (.int .i64 Q)]⟩∧cr 6 s∧s.af 7= .d (.int .i64 w)
def v3 (aK:Int) (s:St):Nat:=match s.af 7 with
 | .d (.int _ w)=>(aK+1000 - w).toNat
 |_=>0
theorem w9 {Γ:Env} :∀{l:jA} {hc VA gZ VB g0 Kg':St→Prop} {σ:St},(∀s,hc s→VA s)→(∀s,gZ s→VB s)→(∀s,g0 s→Kg' s)→js Γ l hc gZ g0 σ→js Γ l VA VB Kg' σ
 | .c l,_,_,_,_,_,_,_,aH,aq,bb,h=>h8 l (fun e s ay=>by
  cases e with
  |normal=>exact aH s ay
  |ret=>exact aq s ay
  |exit j=>exact ay) h
 | .seq a b,_,_,_,_,_,_,_,aH,aq,bb,h=>w9 (l:=a) (fun s ay=>w9 (l:=b) aH aq bb ay) aq bb h
 | .cond c a b,_,_,_,_,_,_,σ,aH,aq,bb,h=>by
   simp only[js]at*
   split at h
   ·exact⟨fun e=>w9 aH aq bb (h.1 e),fun e=>w9 aH aq bb (h.2 e)⟩
   ·exact h.elim
 | .goto,_,_,_,_,_,_,_,_,_,bb,h=>bb _ h
theorem ajM (Γ:Env) (rm:Γ.has 111 mD) (Tc:Γ.has 113 pY) (Td:Γ.has 112 rp) (ajN:Γ.has 79 qn) (ajO:Γ.has 83 qo) (ds:List D) (h:l2.pre ds):Bz Γ Gj Gk xW yE ds fun d=>d=l2.res ds:=by
 obtain⟨K,Q,n,b,rfl,cn,aZ,aH⟩:=h
 have cq:l2.res [cl K Q,.int .i64 n,.fn (ua b) [] []]=aQ (fC b (an K Q) n):=by
  have:decide (ua b=83)=b:=by cases b<;>decide
  simp only[l2,cl,Int.toNat_natCast,this]
 rw[cq]
 have ck:=ig K Q
 have zr:=i111 K cn
 have zt:=vv K Q
 have iR:=uV ck aZ
 have aE:=Aw ck aZ aH
 have sk:∀w:Int,0≤w→w≤800→pY.pre [.agg [.int .i64 K,.int .i64 Q],.int .i64 w]:=fun w h0 h1=>⟨K,Q,w,rfl,cn,iR,h0,h1⟩
 have sl:∀w:Int,pY.res [.agg [.int .i64 K,.int .i64 Q],.int .i64 w]=dp (dt (an K Q) w):=fun w=>by simp only[pY,Int.toNat_natCast]
 have g6:∀w:Int,0≤w→w≤800→(dt (an K Q) w).win (-20000) 200:=fun w h0 h1=>uW iR h0 h1
 unfold fC
 generalize an K Q=a at*
 generalize b6 a=k at*
 obtain⟨aK,eA⟩:∃aK:Int,aK=(n:Int)+2*a5 a+40:=⟨_,rfl⟩
 rw[←eA]at aE⊢
 obtain⟨R,dF⟩:∃R,R=gV b a n 4 aK:=⟨_,rfl⟩
 rw[←dF]
 have key:∀(m:Nat) (s:St),m≤4→gV b a n (4 - m) (aK+64*m)=R→mc K Q n b (aK+64*m) s→js Γ xW (fun s=>iD yE s fun d=>d=aQ R) (fun s=>iD yE s fun d=>d=aQ R) (fun df=>(∃m:Nat,m≤4∧gV b a n (4 - m) (aK+64*m)=R∧mc K Q n b (aK+64*m) df)∧v3 aK df<v3 aK s) s:=by
  intro m s hm hf ⟨h1,h2,al,aW,⟨aM,a0⟩,a4⟩
  obtain⟨w,sm⟩:∃w,w=aK+64*(m:Int):=⟨_,rfl⟩
  have hZ:0≤w∧w≤800:=by omega
  have r7:aK+64*((m+1:Nat):Int)=w+64:=by omega
  have m3:m=4→fK (ja b (dt a w)) n=true:=fun e=>by
   rw[sm,e,show ((4:Nat):Int)=4 from rfl]
   cases b
   ·exact aE.1
   ·exact aE.2
  rw[←sm]at hf a4
  have zb:v3 aK s=(aK+1000 - w).toNat:=by unfold v3;rw[a4]
  have od:=sk w hZ.1 hZ.2
  have ro:=sl w
  have hw:=g6 w hZ.1 hZ.2
  clear sk sl g6 aE dF
  have r8:gV b a n (4 - m) w=if fK (ja b (dt a w)) n=true then eo (ja b (dt a w)) n else if m=4 then eo (ja b (dt a w)) n else gV b a n (4 - (m+1)) (w+64):=by
   by_cases cx:m=4
   ·subst cx
    rw[if_pos rfl]
    show eo _ _=_
    split<;>rfl
   ·rw[show 4 - m=4 - (m+1)+1 by omega,if_neg cx];rfl
  rw[r8]at hf
  clear r8
  generalize dt a w=P at*
  obtain⟨x,ah⟩:∃x,x=ja b P:=⟨_,rfl⟩
  have o3:x.win (-20000) 200:=by
   rw[ah];cases b
   ·exact hw.1
   ·exact hw.2
  rw[←ah]at m3
  obtain⟨y,hy⟩:∃y,y=eo x n:=⟨_,rfl⟩
  obtain⟨ok,b9⟩:∃ok,ok=fK x n:=⟨_,rfl⟩
  have iV:rp.pre [aQ x,.int .i64 n]:=⟨x,n,rfl,win.up o3.1 (by omega) (by omega),win.up o3.2 (by omega) (by omega),by omega,by omega⟩
  have cM:rp.res [aQ x,.int .i64 n]= .ep [aQ y,.bool ok]:=by simp only[rp,aQ,a7,dw,hy,b9]
  have hj:qn.pre [dp P]:=⟨P,rfl⟩
  have rc:qn.res [dp P]=aQ P.c:=by simp only[qn,vb]
  have ps:qo.pre [dp P]:=⟨P,rfl⟩
  have rs:qo.res [dp P]=aQ P.s:=by simp only[qo,vb]
  have vB:(if ok=true then y else if m=4 then y else gV b a n (4 - (m+1)) (w+64))=R:=by
   rw[←hf,hy,b9,ah]
  unfold xW
  simp only[js,xf]
  refine ou (fun s=>s.af 9= .d (.bool ok)∧b8 8 y s∧mc K Q n b w s) ?_ ?_
  ·unfold dp a7 at ro hj rc ps rs
   unfold aQ a7 at iV cM rc rs
   have b4:b=true∨b=false:=by cases b<;>simp
   rcases b4 with rfl|rfl
   ·have vz:x=P.s:=ah
    subst vz
    have uq:ua true=83:=rfl
    rw[uq]at h2
    simp (maxSteps:=2000000) only[↓ak,aj,↓reduceIte,reduceCtorEq,Nat.reduceEqDiff,Nat.reduceLeDiff,Nat.reduceSub,Nat.reduceAdd,Int.reduceToNat,Nat.reducePow,Int.reducePow,Int.reduceLE,Int.reduceLT,IntKind.bits,h1,h2,al,aW,aM,a0,a4,Tc,od,ro,ajO,ps,rs,Td,iV,cM,b8,cr,mc,uq]
   ·have vz:x=P.c:=ah
    subst vz
    have uq:ua false=79:=rfl
    rw[uq]at h2
    simp (maxSteps:=2000000) only[↓ak,aj,↓reduceIte,reduceCtorEq,Nat.reduceEqDiff,Nat.reduceLeDiff,Nat.reduceSub,Nat.reduceAdd,Int.reduceToNat,Nat.reducePow,Int.reducePow,Int.reduceLE,Int.reduceLT,IntKind.bits,h1,h2,al,aW,aM,a0,a4,Tc,od,ro,ajN,hj,rc,Td,iV,cM,b8,cr,mc,uq]
  clear h1 h2 al aW aM a0 a4 iV cM hj rc ps rs od ro
  rintro s ⟨bM,⟨bz,b3⟩,h1,h2,al,aW,⟨aM,a0⟩,a4⟩
  cases ok with
  |true=>
   rw[if_pos rfl]at vB
   subst vB
   unfold aQ a7
   simp (maxSteps:=2000000) only[↓ak,aj,↓reduceIte,reduceCtorEq,Nat.reduceEqDiff,Nat.reduceLeDiff,Nat.reduceSub,Nat.reduceAdd,Int.reduceToNat,Nat.reducePow,Int.reducePow,Int.reduceLE,Int.reduceLT,IntKind.bits,yE,bM,bz,b3,h1,h2,al,aW,aM,a0,a4,Bool.not_true,Bool.false_eq_true]
  |false=>
   have cx:m≠4:=fun e=>by have:=m3 e;rw[←b9]at this;cases this
   rw[if_neg (by decide),if_neg cx]at vB
   refine ou (fun s=>s.af 28= .d (.bool true)∧mc K Q n b w s) ?_ ?_
   ·simp (maxSteps:=2000000) only[↓ak,aj,↓reduceIte,reduceCtorEq,Nat.reduceEqDiff,Nat.reduceLeDiff,Nat.reduceSub,Nat.reduceAdd,Int.reduceToNat,Nat.reducePow,Int.reducePow,Int.reduceLE,Int.reduceLT,IntKind.bits,bM,bz,b3,h1,h2,al,aW,aM,a0,a4,Bool.not_false,mc,cr]
   clear h1 h2 al aW aM a0 a4 bM bz b3
   rintro s ⟨y4,h1,h2,al,aW,⟨aM,a0⟩,a4⟩
   have VC:s.aT (.t 28)= .d (.bool true):=y4
   simp only[VC]
   refine⟨fun _=> ?_,fun e=>by cases e⟩
   refine ou (fun s=>mc K Q n b (w+64) s) ?_ ?_
   ·simp (maxSteps:=2000000) only[↓ak,aj,↓reduceIte,reduceCtorEq,Nat.reduceEqDiff,Nat.reduceLeDiff,Nat.reduceSub,Nat.reduceAdd,Int.reduceToNat,Nat.reducePow,Int.reducePow,Int.reduceLE,Int.reduceLT,IntKind.bits,y4,h1,h2,al,aW,aM,a0,a4,mc,cr]
    ((repeat' apply And.intro)<;>first|assumption|with_reducible rfl|omega|(simp only[aG];omega)|exact⟨_,rfl⟩|exact⟨_,_,_,rfl⟩|exact⟨_,_,_,_,_,_,rfl⟩)
   clear h1 h2 al aW aM a0 y4 VC
   intro df ay
   refine⟨⟨m+1,by omega,by rw[r7];exact vB,by rw[r7];exact ay⟩,?_⟩
   rw[zb]
   unfold v3
   rw[ay.2.2.2.2.2]
   simp only
   omega
 unfold Bz Gj
 refine ou (fun s=>s.af 1= .d (.int .i64 n)∧s.af 2= .d (.fn (ua b) [] [])∧s.af 3= .box 3 0∧s.aw 3=some ⟨false,false,.cells [.d (.int .i64 K),.d (.int .i64 Q)]⟩∧cr 6 s) ?_ ?_
 ·simp (maxSteps:=2000000) only[↓ak,aj,↓reduceIte,reduceCtorEq,Nat.reduceEqDiff,Nat.reduceLeDiff,Nat.reduceSub,Nat.reduceAdd,Int.reduceToNat,Nat.reducePow,Int.reducePow,Int.reduceLE,Int.reduceLT,IntKind.bits,cl,cr]
 rintro s ⟨h1,h2,al,aW,⟨aM,a0⟩⟩
 refine⟨fun s=>∃m:Nat,m≤4∧gV b a n (4 - m) (aK+64*m)=R∧mc K Q n b (aK+64*m) s,v3 aK,?_,fun s ⟨m,h1,h2,al⟩=>key m s h1 h2 al⟩
 unfold Gk
 simp only[js,xf]
 refine ou (fun s=>mc K Q n b aK s) ?_ ?_
 ·simp (maxSteps:=2000000) only[↓ak,aj,↓reduceIte,reduceCtorEq,Nat.reduceEqDiff,Nat.reduceLeDiff,Nat.reduceSub,Nat.reduceAdd,Int.reduceToNat,Nat.reducePow,Int.reducePow,Int.reduceLE,Int.reduceLT,IntKind.bits,h1,h2,al,aW,aM,a0,mc,cr,rm,zr,zt]
  rw[eA]
  ((repeat' apply And.intro)<;>first|assumption|with_reducible rfl|omega|(simp only[aG];omega)|exact⟨_,rfl⟩|exact⟨_,_,_,rfl⟩|exact⟨_,_,_,_,_,_,rfl⟩)
 clear h1 h2 al aW aM a0
 intro s ay
 have:=key 0 s (by omega) (by rw[dF,Int.natCast_zero,Int.mul_zero,Int.add_zero]) (by rw[Int.natCast_zero,Int.mul_zero,Int.add_zero];exact ay)
 have:=w9 (Kg':=fun s=>∃m:Nat,m≤4∧gV b a n (4 - m) (aK+64*m)=R∧mc K Q n b (aK+64*m) s) (fun _ h=>h) (fun _ h=>h) (fun _ h=>h.1) this
 unfold xW at this
 simp only[js,xf]at this
 exact this
def jx:bq where
 pre:=fun ds=>∃(K:Int) (Q n:Nat),ds=[cl K Q,.int .i64 n]∧Q≤60∧a5 (an K Q)≤14∧n≤160
 res:=fun ds=>match ds with
  |[.agg [.int _ K,.int _ Q],.int _ n]=>aQ (fC false (an K Q.toNat) n)
  |_=> .nilp
theorem ajP (Γ:Env) (KL:Γ.has 78 l2) (ds:List D) (h:jx.pre ds):bH Γ I2 I3 ds fun d=>d=jx.res ds:=by
 obtain⟨K,Q,n,rfl,cn,aZ,aH⟩:=h
 have cq:jx.res [cl K Q,.int .i64 n]=aQ (fC false (an K Q) n):=by simp only[jx,cl,Int.toNat_natCast]
 rw[cq]
 have p1:l2.pre [.agg [.int .i64 K,.int .i64 Q],.int .i64 n,.fn 79 [] []]:=⟨K,Q,n,false,rfl,cn,aZ,aH⟩
 have bP:l2.res [.agg [.int .i64 K,.int .i64 Q],.int .i64 n,.fn 79 [] []]=aQ (fC false (an K Q) n):=by
  have:decide ((79:Nat)=83)=false:=by decide
  simp only[l2,Int.toNat_natCast,this]
 generalize fC false (an K Q) n=y at*
 unfold aQ a7 at bP
 simp (maxSteps:=2000000) only[↓ak,aj,↓reduceIte,reduceCtorEq,Nat.reduceEqDiff,Nat.reduceLeDiff,Nat.reduceSub,Nat.reduceAdd,Int.reduceToNat,Nat.reducePow,Int.reducePow,Int.reduceLE,Int.reduceLT,IntKind.bits,I2,I3,cl,aQ,KL,p1,bP]
def m4:bq where
 pre:=fun ds=>∃(K:Int) (Q n:Nat),ds=[cl K Q,.int .i64 n]∧Q≤60∧a5 (an K Q)≤14∧n≤160
 res:=fun ds=>match ds with
  |[.agg [.int _ K,.int _ Q],.int _ n]=>aQ (fC true (an K Q.toNat) n)
  |_=> .nilp
theorem ajQ (Γ:Env) (KL:Γ.has 78 l2) (ds:List D) (h:m4.pre ds):bH Γ I6 I7 ds fun d=>d=m4.res ds:=by
 obtain⟨K,Q,n,rfl,cn,aZ,aH⟩:=h
 have cq:m4.res [cl K Q,.int .i64 n]=aQ (fC true (an K Q) n):=by simp only[m4,cl,Int.toNat_natCast]
 rw[cq]
 have p1:l2.pre [.agg [.int .i64 K,.int .i64 Q],.int .i64 n,.fn 83 [] []]:=⟨K,Q,n,true,rfl,cn,aZ,aH⟩
 have bP:l2.res [.agg [.int .i64 K,.int .i64 Q],.int .i64 n,.fn 83 [] []]=aQ (fC true (an K Q) n):=by
  simp only[l2,Int.toNat_natCast,decide_true]
 generalize fC true (an K Q) n=y at*
 unfold aQ a7 at bP
 simp (maxSteps:=2000000) only[↓ak,aj,↓reduceIte,reduceCtorEq,Nat.reduceEqDiff,Nat.reduceLeDiff,Nat.reduceSub,Nat.reduceAdd,Int.reduceToNat,Nat.reducePow,Int.reducePow,Int.reduceLE,Int.reduceLT,IntKind.bits,I6,I7,cl,aQ,KL,p1,bP]
def p2:bq where
 pre:=fun ds=>∃(q:Nat) (w:Int),ds=[.int .i64 q,.int .i64 w]∧3≤q∧q≤20∧0≤w∧w≤800
 res:=fun ds=>match ds with
  |[.int _ q,.int _ w]=>ql w (q - 2).toNat
  |_=> .nilp
def gG (w:Int) (n:Nat):List (List D):=(List.range n).map fun k=>kz (aA w k)
theorem abB (w:Int) (n:Nat):gG w n++[kz (aA w n)]=gG w (n+1):=by
 unfold gG;rw[List.range_succ,List.map_append];rfl
theorem EZ (w:Int) (n:Nat):(gG w n).length=n:=by unfold gG;rw[List.length_map,List.length_range]
def h7 (q w k:Int) (R:List (List D)) (n:Nat) (o:bD) (p:db) (s:St):Prop:=s.af 0= .d (.int .i64 q)∧s.af 1= .d (.int .i64 w)∧s.af 10= .d (.int .i64 k)∧s.af 9= .own 9 0 n∧s.aw 9=some ⟨false,false,.recs 12 R⟩∧b8 5 o s∧b8 6 p.c s∧b8 8 p.s s
theorem agf (Γ:Env) (ub:Γ.has 46 g8) (qi:Γ.has 19 gn) (KM:Γ.has 16 qj) (VD:Γ.has 30 r0) (zc:Γ.has 32 iP) (vY:Γ.has 28 iw) (ds:List D) (h:p2.pre ds):bH Γ GH GI ds fun d=>d=p2.res ds:=by
 obtain⟨q,w,rfl,tN,alw,eA,g9⟩:=h
 have cq:p2.res [.int .i64 q,.int .i64 w]= .recs 12 (gG w (q - 2)):=by
  simp only[p2,show ((q:Int) - 2).toNat=q - 2 by omega];rfl
 rw[cq]
 obtain⟨o,bh⟩:∃o,o=i1:=⟨_,rfl⟩
 have ob:o.win (-(2*w+16)) 8:=bh▸vw (by omega) (by omega)
 have p1:g8.pre [.int .i64 1]:=⟨1,rfl,by omega,by omega⟩
 have bP:g8.res [.int .i64 1]=aR d1:=by
  have:mk (decide ((1:Int)<0)) (Int.natAbs 1) 0=d1:=Da
  simp only[g8,this]
 have cS:gn.pre [aR d1]:=⟨d1,rfl⟩
 have ca:gn.res [aR d1]=aQ o:=by simp only[gn,aR,a7,b0,bh];rfl
 have g2:gn.pre [.agg [.bool false,.ints .i64 [1],.int .i64 (-1)]]:=⟨hQ (-1),by unfold aR hQ a7;rw[c8]⟩
 have g1:gn.res [.agg [.bool false,.ints .i64 [1],.int .i64 (-1)]]=aQ (fy o (-1)):=by
  have e:(.agg [.bool false,.ints .i64 [1],.int .i64 (-1)]:D)=aR (hQ (-1)):=by unfold aR hQ a7;rw[c8]
  rw[e]
  have a6:pD (hQ (-1))=fy o (-1):=by
   have:fx d1 (-1)=hQ (-1):=by show mk false 1 (0+ -1)=_;rw[Int.zero_add];exact Vo (-1)
   rw[bh];unfold pD fy i1;rw[this]
  simp only[gn,aR,a7,b0,a6]
 have key:∀(x:bD),x.win (-(2*w+16)) 9→(r0.pre [aQ x,.int .i64 (-1)]∧r0.res [aQ x,.int .i64 (-1)]=aQ (fy x (-1)))∧
  (qj.pre [aQ (fy x (-1)),.int .i64 w]∧∃b,qj.res [aQ (fy x (-1)),.int .i64 w]= .ep [aQ (fl x w),.bool b]):=fun x ah=>by
  refine⟨⟨⟨x,-1,rfl,ff ah (by omega) (by omega),by omega,by omega⟩,by simp only[r0,aQ,a7,dw]⟩,⟨fy x (-1),w,rfl,ff (EY ah (-1)) (by omega) (by omega),eA,by omega⟩,?_⟩
  simp only[qj,aQ,a7,dw]
  unfold lB fl
  have e:(fy x (-1)).lo=fx x.lo (-1):=rfl
  rw[e]
  split
  ·exact⟨false,rfl⟩
  ·exact⟨true,rfl⟩
 rw[fP]
 unfold GH GI
 refine bX (fun s=>s.af 0= .d (.int .i64 q)∧s.af 1= .d (.int .i64 w)) ?_ ?_
 ·simp (maxSteps:=2000000) only[↓ak,aj,↓reduceIte,reduceCtorEq,Nat.reduceEqDiff,Nat.reduceLeDiff,Nat.reduceSub,Nat.reduceAdd,Int.reduceToNat,Nat.reducePow,Int.reducePow,Int.reduceLE,Int.reduceLT,IntKind.bits]
 rintro s ⟨h0,h1⟩
 refine bX (fun s=>s.af 0= .d (.int .i64 q)∧s.af 1= .d (.int .i64 w)∧b8 5 o s) ?_ ?_
 ·unfold aR a7 at bP cS ca
  unfold aQ a7 at ca
  simp (maxSteps:=2000000) only[↓ak,aj,↓reduceIte,reduceCtorEq,Nat.reduceEqDiff,Nat.reduceLeDiff,Nat.reduceSub,Nat.reduceAdd,Int.reduceToNat,Nat.reducePow,Int.reducePow,Int.reduceLE,Int.reduceLT,IntKind.bits,h0,h1,ub,p1,bP,qi,cS,ca,b8]
 clear h0 h1
 rintro s ⟨h0,h1,aI,a9⟩
 refine bX (fun s=>s.af 0= .d (.int .i64 q)∧s.af 1= .d (.int .i64 w)∧b8 5 o s∧b8 6 (aA w 0).c s) ?_ ?_
 ·obtain⟨-,sj,b,iy⟩:=key o (ff ob (by omega) (by omega))
  have cF:(aA w 0).c=fl o w:=by rw[bh];rfl
  rw[cF]
  generalize fl o w=z at*
  generalize fy o (-1)=y at*
  unfold aQ a7 at g1 sj iy
  simp (maxSteps:=2000000) only[↓ak,aj,↓reduceIte,reduceCtorEq,Nat.reduceEqDiff,Nat.reduceLeDiff,Nat.reduceSub,Nat.reduceAdd,Int.reduceToNat,Nat.reducePow,Int.reducePow,Int.reduceLE,Int.reduceLT,IntKind.bits,h0,h1,aI,a9,qi,g2,g1,KM,sj,iy,b8]
 clear h0 h1 aI a9
 rintro s ⟨h0,h1,⟨aI,a9⟩,aM,a0⟩
 refine bX (fun s=>s.af 0= .d (.int .i64 q)∧s.af 1= .d (.int .i64 w)∧b8 5 o s∧b8 6 (aA w 0).c s∧b8 8 (aA w 0).s s) ?_ ?_
 ·have cF:(aA w 0).s=(aA w 0).c:=rfl
  rw[cF]
  generalize (aA w 0).c=z at*
  simp (maxSteps:=2000000) only[↓ak,aj,↓reduceIte,reduceCtorEq,Nat.reduceEqDiff,Nat.reduceLeDiff,Nat.reduceSub,Nat.reduceAdd,Int.reduceToNat,Nat.reducePow,Int.reducePow,Int.reduceLE,Int.reduceLT,IntKind.bits,h0,h1,aI,a9,aM,a0,b8]
 clear h0 h1 aI a9 aM a0
 rintro s ⟨h0,h1,⟨aI,a9⟩,⟨aM,a0⟩,bz,b3⟩
 refine bX (fun s=>s.af 0= .d (.int .i64 q)∧s.af 1= .d (.int .i64 w)∧s.af 9= .own 9 0 0∧s.aw 9=some ⟨false,false,.recs 12 []⟩∧b8 5 o s∧b8 6 (aA w 0).c s∧b8 8 (aA w 0).s s) ?_ ?_
 ·generalize (aA w 0).c=z at*
  generalize (aA w 0).s=gv at*
  simp (maxSteps:=2000000) only[↓ak,aj,↓reduceIte,reduceCtorEq,Nat.reduceEqDiff,Nat.reduceLeDiff,Nat.reduceSub,Nat.reduceAdd,Int.reduceToNat,Nat.reducePow,Int.reducePow,Int.reduceLE,Int.reduceLT,IntKind.bits,h0,h1,aI,a9,aM,a0,bz,b3,b8]
 clear h0 h1 aI a9 aM a0 bz b3
 rintro s ⟨h0,h1,bM,cI,⟨aI,a9⟩,⟨aM,a0⟩,bz,b3⟩
 refine cc (fun _=>False) ?_ (fun s h=>h.elim)
 refine bX (h7 q w 3 [] 0 o (aA w 0)) ?_ ?_
 ·generalize aA w 0=z at*
  simp (maxSteps:=2000000) only[↓ak,aj,↓reduceIte,reduceCtorEq,Nat.reduceEqDiff,Nat.reduceLeDiff,Nat.reduceSub,Nat.reduceAdd,Int.reduceToNat,Nat.reducePow,Int.reducePow,Int.reduceLE,Int.reduceLT,IntKind.bits,h0,h1,bM,cI,aI,a9,aM,a0,bz,b3,b8,h7]
 clear h0 h1 bM cI aI a9 aM a0 bz b3
 intro s ay
 rw[jF]
 refine eC (fun s=>∃n:Nat,n+3≤q∧h7 q w (n+3:Nat) (gG w n) n o (aA w n) s) (fun s=>match s.af 10 with| .d (.int _ n)=>(100 - n).toNat|_=>0) ⟨0,by omega,ay⟩ ?_
 clear ay
 rintro s ⟨n,aH,h0,h1,cB,bM,cI,⟨aI,a9⟩,⟨aM,a0⟩,bz,b3⟩
 have v5:=cB
 refine bX (h7 q w (n+3:Nat) (gG w n) n o (aA w n)) ?_ ?_
 ·generalize aA w n=z at*
  generalize gG w n=R at*
  have bB:((n+3:Nat):Int)≤q:=by omega
  simp (maxSteps:=2000000) only[↓ak,aj,↓reduceIte,reduceCtorEq,Nat.reduceEqDiff,Nat.reduceLeDiff,Nat.reduceSub,Nat.reduceAdd,Int.reduceToNat,Nat.reducePow,Int.reducePow,Int.reduceLE,Int.reduceLT,IntKind.bits,h0,h1,cB,bM,cI,aI,a9,aM,a0,bz,b3,bB,b8,h7]
 clear h0 h1 cB bM cI aI a9 aM a0 bz b3
 rintro s ⟨h0,h1,cB,bM,cI,⟨aI,a9⟩,⟨aM,a0⟩,bz,b3⟩
 refine bX (fun s=>n+3<q∧h7 q w (n+3:Nat) (gG w (n+1)) (n+1) o (aA w (n+1)) s) ?_ ?_
 ·rw[jF]
  have VE:=abB w n
  have aB:=EZ w n
  have fQ:=EZ w (n+1)
  refine bX (h7 q w (n+3:Nat) (gG w (n+1)) (n+1) o (aA w n)) ?_ ?_
  ·unfold kz a7 at VE
   generalize aA w n=z at*
   generalize gG w n=R at*
   generalize gG w (n+1)=uw at*
   simp (maxSteps:=2000000) only[↓ak,aj,↓reduceIte,reduceCtorEq,Nat.reduceEqDiff,Nat.reduceLeDiff,Nat.reduceSub,Nat.reduceAdd,Int.reduceToNat,Nat.reducePow,Int.reducePow,Int.reduceLE,Int.reduceLT,IntKind.bits,h0,h1,cB,bM,cI,aI,a9,aM,a0,bz,b3,VE,aB,fQ,b8,h7]
   simp only[bL];omega
  clear h0 h1 cB bM cI aI a9 aM a0 bz b3
  rintro s ⟨h0,h1,cB,bM,cI,⟨aI,a9⟩,⟨aM,a0⟩,bz,b3⟩
  refine bX (fun s=>(n+3:Nat)<q∧h7 q w (n+3:Nat) (gG w (n+1)) (n+1) o (aA w n) s) ?_ ?_
  ·have ajR:n+3=q→q - 2=n+1:=by omega
   generalize aA w n=z at*
   by_cases ce:n+3=q
   ·rw[ajR ce]
    have bB:(((n+3:Nat):Int)==(q:Int))=true:=by rw[beq_iff_eq];omega
    generalize gG w (n+1)=uw at*
    simp (maxSteps:=2000000) only[↓ak,aj,↓reduceIte,reduceCtorEq,Nat.reduceEqDiff,Nat.reduceLeDiff,Nat.reduceSub,Nat.reduceAdd,Int.reduceToNat,Nat.reducePow,Int.reducePow,Int.reduceLE,Int.reduceLT,IntKind.bits,h0,h1,cB,bM,cI,aI,a9,aM,a0,bz,b3,bB,fQ,b8,h7]
    rw[List.take_of_length_le (by omega)]
   ·have bB:(((n+3:Nat):Int)==(q:Int))=false:=by rw[beq_eq_false_iff_ne];omega
    generalize gG w (n+1)=uw at*
    simp (maxSteps:=2000000) only[↓ak,aj,↓reduceIte,reduceCtorEq,Nat.reduceEqDiff,Nat.reduceLeDiff,Nat.reduceSub,Nat.reduceAdd,Int.reduceToNat,Nat.reducePow,Int.reducePow,Int.reduceLE,Int.reduceLT,IntKind.bits,h0,h1,cB,bM,cI,aI,a9,aM,a0,bz,b3,bB,b8,h7]
    omega
  clear h0 h1 cB bM cI aI a9 aM a0 bz b3
  rintro s ⟨bp,h0,h1,cB,bM,cI,⟨aI,a9⟩,⟨aM,a0⟩,bz,b3⟩
  have ad:=(rq eA n).1
  have eR:=mq ob ad
  have eX:=mq ob (ll ad)
  obtain⟨⟨ea,t1⟩,ft,aY,t2⟩:=key (dB o (aA w n).c) (ff eR (by omega) (by omega))
  obtain⟨⟨fY,t3⟩,la,aU,t4⟩:=key (dB o (cZ (aA w n).c)) (ff eX (by omega) (by omega))
  have ek:aA w (n+1)=⟨fl (dB o (aA w n).c) w,fl (dB o (cZ (aA w n).c)) w⟩:=by rw[bh];rfl
  rw[ek]
  have pa:iP.pre [aQ o,aQ (aA w n).c]:=⟨o,_,rfl,ff ob (by omega) (by omega),ff ad (by omega) (by omega)⟩
  have jC:iP.res [aQ o,aQ (aA w n).c]=aQ (dB o (aA w n).c):=by simp only[iP,aQ,a7,dw]
  have iX:iw.pre [aQ (aA w n).c]:=⟨_,rfl⟩
  have hh:iw.res [aQ (aA w n).c]=aQ (cZ (aA w n).c):=by simp only[iw,aQ,a7,dw]
  have ma:iP.pre [aQ o,aQ (cZ (aA w n).c)]:=⟨o,_,rfl,ff ob (by omega) (by omega),ff (ll ad) (by omega) (by omega)⟩
  have oc:iP.res [aQ o,aQ (cZ (aA w n).c)]=aQ (dB o (cZ (aA w n).c)):=by simp only[iP,aQ,a7,dw]
  clear key eR eX ek ad
  generalize aA w n=z at*
  generalize gG w (n+1)=uw at*
  generalize dB o z.c=u at*
  generalize cZ z.c=v at*
  generalize dB o v=t at*
  generalize fl u w=x at*
  generalize fl t w=y at*
  generalize fy u (-1)=Y8 at*
  generalize fy t (-1)=n4 at*
  unfold aQ a7 at pa jC iX hh ma oc ea t1 ft t2 fY t3 la t4
  refine bX (fun s=>h7 q w (n+3:Nat) uw (n+1) o z s∧b8 11 Y8 s) ?_ ?_
  ·simp (maxSteps:=2000000) only[↓ak,aj,↓reduceIte,reduceCtorEq,Nat.reduceEqDiff,Nat.reduceLeDiff,Nat.reduceSub,Nat.reduceAdd,Int.reduceToNat,Nat.reducePow,Int.reducePow,Int.reduceLE,Int.reduceLT,IntKind.bits,h0,h1,cB,bM,cI,aI,a9,aM,a0,bz,b3,zc,pa,jC,VD,ea,t1,b8,h7]
  clear h0 h1 cB bM cI aI a9 aM a0 bz b3
  rintro s ⟨⟨h0,h1,cB,bM,cI,⟨aI,a9⟩,⟨aM,a0⟩,bz,b3⟩,hO,qm⟩
  refine bX (fun s=>h7 q w (n+3:Nat) uw (n+1) o z s∧b8 11 Y8 s∧b8 12 n4 s) ?_ ?_
  ·simp (maxSteps:=2000000) only[↓ak,aj,↓reduceIte,reduceCtorEq,Nat.reduceEqDiff,Nat.reduceLeDiff,Nat.reduceSub,Nat.reduceAdd,Int.reduceToNat,Nat.reducePow,Int.reducePow,Int.reduceLE,Int.reduceLT,IntKind.bits,h0,h1,cB,bM,cI,aI,a9,aM,a0,bz,b3,hO,qm,zc,ma,oc,vY,iX,hh,VD,fY,t3,b8,h7]
   exact⟨by decide,by decide⟩
  clear h0 h1 cB bM cI aI a9 aM a0 bz b3 hO qm
  rintro s ⟨⟨h0,h1,cB,bM,cI,⟨aI,a9⟩,⟨aM,a0⟩,bz,b3⟩,⟨hO,qm⟩,dk,n3⟩
  refine bX (fun s=>h7 q w (n+3:Nat) uw (n+1) o ⟨x,z.s⟩ s∧b8 12 n4 s) ?_ ?_
  ·simp (maxSteps:=2000000) only[↓ak,aj,↓reduceIte,reduceCtorEq,Nat.reduceEqDiff,Nat.reduceLeDiff,Nat.reduceSub,Nat.reduceAdd,Int.reduceToNat,Nat.reducePow,Int.reducePow,Int.reduceLE,Int.reduceLT,IntKind.bits,h0,h1,cB,bM,cI,aI,a9,aM,a0,bz,b3,hO,qm,dk,n3,KM,ft,t2,b8,h7]
  clear h0 h1 cB bM cI aI a9 aM a0 bz b3 hO qm dk n3
  rintro s ⟨⟨h0,h1,cB,bM,cI,⟨aI,a9⟩,⟨aM,a0⟩,bz,b3⟩,dk,n3⟩
  simp (maxSteps:=2000000) only[↓ak,aj,↓reduceIte,reduceCtorEq,Nat.reduceEqDiff,Nat.reduceLeDiff,Nat.reduceSub,Nat.reduceAdd,Int.reduceToNat,Nat.reducePow,Int.reducePow,Int.reduceLE,Int.reduceLT,IntKind.bits,h0,h1,cB,bM,cI,aI,a9,aM,a0,bz,b3,dk,n3,KM,la,t4,b8,h7,bp]
 ·clear h0 h1 cB bM cI aI a9 aM a0 bz b3
  rintro s ⟨bp,ay⟩
  refine ou (fun s=>s.af 10= .d (.int .i64 (n+1+3:Nat))∧h7 q w (n+1+3:Nat) (gG w (n+1)) (n+1) o (aA w (n+1)) s) ?_ ?_
  rotate_left
  ·rintro s ⟨cB,ay⟩
   refine⟨⟨n+1,bp,ay⟩,?_⟩
   simp only[cB,v5]
   omega
  obtain⟨h0,h1,cB,bM,cI,⟨aI,a9⟩,⟨aM,a0⟩,bz,b3⟩:=ay
  generalize aA w (n+1)=z at*
  generalize gG w (n+1)=uw at*
  have cx:((n+3:Nat):Int)+1=((n+1+3:Nat):Int):=by omega
  simp (maxSteps:=2000000) only[↓ak,aj,↓reduceIte,reduceCtorEq,Nat.reduceEqDiff,Nat.reduceLeDiff,Nat.reduceSub,Nat.reduceAdd,Int.reduceToNat,Nat.reducePow,Int.reducePow,Int.reduceLE,Int.reduceLT,IntKind.bits,h0,h1,cB,bM,cI,aI,a9,aM,a0,bz,b3,cx,b8,h7]
  simp only[aG];omega
theorem acs {Γ:Env} {c:bk} {a b:au} {Q:eg→St→Prop} {σ:St} (h:σ.aT c= .d (.bool true)) (a2:bZ Γ a Q σ):bZ Γ (.cond c a b) Q σ:=by
 rw[bZ]
 rw[h]
 exact⟨fun _=>a2,fun e=>by cases e⟩
def hR (K Q q w:Int) (L:List (List D)) (p:db) (s:St):Prop:=s.af 1= .d (.int .i64 w)∧s.af 2= .d (.recs 12 L)∧s.af 3= .box 3 0∧s.aw 3=some ⟨false,false,.cells [.d (.int .i64 K),.d (.int .i64 Q)]⟩∧cr 6 s∧cr 7 s∧b8 8 p.c s∧b8 9 p.s s∧s.af 10= .d (.int .i64 q)
theorem agh (Γ:Env) (ub:Γ.has 46 g8) (qi:Γ.has 19 gn) (VF:Γ.has 34 qh) (vY:Γ.has 28 iw) (zc:Γ.has 32 iP) (VG:Γ.has 36 n2) (ds:List D) (h:tq.pre ds):bH Γ Hg Hh ds fun d=>d=tq.res ds:=by
 obtain⟨a,w,N,rfl,a2,cn,al9,eA,g9⟩:=h
 have cq:tq.res [jB a,.int .i64 w,ql w N]=ix (rest (b6 a) (a5 a) w):=rfl
 rw[cq]
 have zn:jB a=cl (b6 a) (a5 a):=rfl
 rw[zn]
 have bV:=Bi (a:=a) (by omega)
 generalize b6 a=K at*
 generalize a5 a=Q at*
 clear zn cq
 obtain⟨L,gu⟩:∃L,L=gG w N:=⟨_,rfl⟩
 have Lo:ql w N= .recs 12 L:=by rw[gu];rfl
 have ama:L.length=N:=by rw[gu,EZ]
 have VH:∀i,i<N→L.getD i []=kz (aA w i):=fun i hi=>by
  rw[gu];unfold gG
  rw[List.getD_eq_getElem?_getD,List.getElem?_map,List.getElem?_range hi];rfl
 rw[Lo]
 obtain⟨o,bh⟩:∃o,o=i1:=⟨_,rfl⟩
 have p1:g8.pre [.int .i64 1]:=⟨1,rfl,by omega,by omega⟩
 have bP:g8.res [.int .i64 1]=aR d1:=by
  have:mk (decide ((1:Int)<0)) (Int.natAbs 1) 0=d1:=Da
  simp only[g8,this]
 have cS:gn.pre [aR d1]:=⟨d1,rfl⟩
 have ca:gn.res [aR d1]=aQ o:=by simp only[gn,aR,a7,b0,bh];rfl
 have l8:ai 0=[]:=gf
 have g2:gn.pre [.agg [.bool false,.ints .i64 [],.int .i64 0]]:=⟨⟨false,0,0⟩,by unfold aR a7;rw[l8]⟩
 obtain⟨z,bg⟩:∃z:bD,z=⟨⟨false,0,0⟩,⟨false,0,0⟩⟩:=⟨_,rfl⟩
 have g1:gn.res [.agg [.bool false,.ints .i64 [],.int .i64 0]]=aQ z:=by
  have e:(.agg [.bool false,.ints .i64 [],.int .i64 0]:D)=aR ⟨false,0,0⟩:=by unfold aR a7;rw[l8]
  rw[e,bg]
  have a6:dO (aR ⟨false,0,0⟩)=⟨false,0,0⟩:=b0 ⟨false,0,0⟩
  simp only[gn,a6];rfl
 have ajS:p0=⟨o,z⟩:=by rw[bh,bg];rfl
 rw[fP]
 unfold Hg Hh
 refine bX (fun s=>s.af 1= .d (.int .i64 w)∧s.af 2= .d (.recs 12 L)∧s.af 3= .box 3 0∧s.aw 3=some ⟨false,false,.cells [.d (.int .i64 K),.d (.int .i64 Q)]⟩∧cr 6 s∧cr 7 s) ?_ ?_
 ·simp (maxSteps:=2000000) only[↓ak,aj,↓reduceIte,reduceCtorEq,Nat.reduceEqDiff,Nat.reduceLeDiff,Nat.reduceSub,Nat.reduceAdd,Int.reduceToNat,Nat.reducePow,Int.reducePow,Int.reduceLE,Int.reduceLT,IntKind.bits,cl,cr]
 rintro s ⟨h1,h2,al,aW,⟨aM,a0⟩,a4,cz⟩
 refine bX (fun s=>s.af 1= .d (.int .i64 w)∧s.af 2= .d (.recs 12 L)∧s.af 3= .box 3 0∧s.aw 3=some ⟨false,false,.cells [.d (.int .i64 K),.d (.int .i64 Q)]⟩∧cr 6 s∧cr 7 s∧b8 8 o s) ?_ ?_
 ·unfold aR a7 at bP cS ca
  unfold aQ a7 at ca
  simp (maxSteps:=2000000) only[↓ak,aj,↓reduceIte,reduceCtorEq,Nat.reduceEqDiff,Nat.reduceLeDiff,Nat.reduceSub,Nat.reduceAdd,Int.reduceToNat,Nat.reducePow,Int.reducePow,Int.reduceLE,Int.reduceLT,IntKind.bits,h1,h2,al,aW,aM,a0,a4,cz,ub,p1,bP,qi,cS,ca,cr,b8]
 clear h1 h2 al aW aM a0 a4 cz
 rintro s ⟨h1,h2,al,aW,⟨aM,a0⟩,⟨a4,cz⟩,bz,b3⟩
 refine bX (fun s=>s.af 1= .d (.int .i64 w)∧s.af 2= .d (.recs 12 L)∧s.af 3= .box 3 0∧s.aw 3=some ⟨false,false,.cells [.d (.int .i64 K),.d (.int .i64 Q)]⟩∧cr 6 s∧cr 7 s∧b8 8 o s∧b8 9 z s) ?_ ?_
 ·unfold aQ a7 at g1
  simp (maxSteps:=2000000) only[↓ak,aj,↓reduceIte,reduceCtorEq,Nat.reduceEqDiff,Nat.reduceLeDiff,Nat.reduceSub,Nat.reduceAdd,Int.reduceToNat,Nat.reducePow,Int.reducePow,Int.reduceLE,Int.reduceLT,IntKind.bits,h1,h2,al,aW,aM,a0,a4,cz,bz,b3,qi,g2,g1,cr,b8]
 clear h1 h2 al aW aM a0 a4 cz bz b3
 rintro s ⟨h1,h2,al,aW,⟨aM,a0⟩,⟨a4,cz⟩,⟨bz,b3⟩,bM,cI⟩
 obtain⟨R,dF⟩:∃R,R=rest K Q w:=⟨_,rfl⟩
 obtain⟨n,aH⟩:∃n,n=((Q:Int) - 2).toNat:=⟨_,rfl⟩
 have tV:R=k7 K Q w n 3 p0:=by rw[dF,aH];rfl
 rw[←dF]
 refine cc (fun s=>cr 6 s∧cr 7 s∧b8 8 R.c s∧b8 9 R.s s) ?_ ?_
 rotate_left
 ·clear h1 h2 al aW aM a0 a4 cz bz b3 bM cI
  rintro s ⟨⟨aM,a0⟩,⟨a4,cz⟩,⟨bz,b3⟩,bM,cI⟩
  simp (maxSteps:=2000000) only[↓ak,aj,↓reduceIte,reduceCtorEq,Nat.reduceEqDiff,Nat.reduceLeDiff,Nat.reduceSub,Nat.reduceAdd,Int.reduceToNat,Nat.reducePow,Int.reducePow,Int.reduceLE,Int.reduceLT,IntKind.bits,aM,a0,a4,cz,bz,b3,bM,cI,ix,aQ,a7]
  (repeat' apply And.intro)<;>decide
 refine bX (hR K Q 3 w L p0) ?_ ?_
 ·rw[ajS]
  simp (maxSteps:=2000000) only[↓ak,aj,↓reduceIte,reduceCtorEq,Nat.reduceEqDiff,Nat.reduceLeDiff,Nat.reduceSub,Nat.reduceAdd,Int.reduceToNat,Nat.reducePow,Int.reducePow,Int.reduceLE,Int.reduceLT,IntKind.bits,h1,h2,al,aW,aM,a0,a4,cz,bz,b3,bM,cI,hR,cr,b8]
 clear h1 h2 al aW aM a0 a4 cz bz b3 bM cI p1 bP cS ca g2 g1
 intro s ay
 rw[jF]
 refine eC (fun s=>∃(k:Nat) (p:db),k≤n∧k7 K Q w (n - k) (k+3) p=R∧p.win (-((k:Int)*(2*w+16))) (1+10*k)∧hR K Q (k+3:Nat) w L p s) (fun s=>match s.af 10 with| .d (.int _ n)=>(100 - n).toNat|_=>0) ⟨0,p0,by omega,tV.symm,HL (by omega) (by omega),ay⟩ ?_
 clear ay
 rintro s ⟨k,p,rI,e7,kr,h1,h2,al,aW,⟨aM,a0⟩,⟨a4,cz⟩,⟨bz,b3⟩,⟨bM,cI⟩,cB⟩
 have v5:=cB
 by_cases wz:((k+3:Nat):Int)≤(Q:Int)
 rotate_left
 ·have cF:n - k=0:=by omega
  rw[cF]at e7
  have e7:p=R:=e7
  subst e7
  simp (maxSteps:=2000000) only[↓ak,aj,↓reduceIte,reduceCtorEq,Nat.reduceEqDiff,Nat.reduceLeDiff,Nat.reduceSub,Nat.reduceAdd,Int.reduceToNat,Nat.reducePow,Int.reducePow,Int.reduceLE,Int.reduceLT,IntKind.bits,h1,h2,al,aW,aM,a0,a4,cz,bz,b3,bM,cI,cB,wz,cr,b8]
 have bp:k<n:=by omega
 have lg:=rq eA k
 have ajw:(k:Int)*(2*w+16)≤12*(2*w+16):=Int.mul_le_mul_of_nonneg_right (by omega) (by omega)
 have agd:0≤(k:Int)*(2*w+16):=Int.mul_nonneg (by omega) (by omega)
 refine bX (hR K Q (k+3:Nat) w L p) ?_ ?_
 ·simp (maxSteps:=2000000) only[↓ak,aj,↓reduceIte,reduceCtorEq,Nat.reduceEqDiff,Nat.reduceLeDiff,Nat.reduceSub,Nat.reduceAdd,Int.reduceToNat,Nat.reducePow,Int.reducePow,Int.reduceLE,Int.reduceLT,IntKind.bits,h1,h2,al,aW,aM,a0,a4,cz,bz,b3,bM,cI,cB,wz,cr,b8,hR]
 clear h1 h2 al aW aM a0 a4 cz bz b3 bM cI cB
 rintro s ⟨h1,h2,al,aW,⟨aM,a0⟩,⟨a4,cz⟩,⟨bz,b3⟩,⟨bM,cI⟩,cB⟩
 obtain⟨c9,mK⟩:∃c9:db,c9=if (K / 2^(Q - (k+3))) % 2=1 then mw p (aA w k) w else p:=⟨_,rfl⟩
 have er:k7 K Q w (n - (k+1)) (k+1+3) c9=R:=by
  rw[←e7,show n - k=n - (k+1)+1 by omega,OL,Int.toNat_natCast,Int.toNat_natCast,show k+3 - 3=k by omega,mK]
 have g6:c9.win (-(((k+1:Nat):Int)*(2*w+16))) (1+10*((k+1:Nat):Int)):=by
  have e:((k+1:Nat):Int)*(2*w+16)=(k:Int)*(2*w+16)+(2*w+16):=by rw[Int.natCast_add,Int.add_mul];omega
  rw[mK,e]
  split
  ·exact oD (Fh kr lg eA) (by omega) (by omega)
  ·exact oD kr (by omega) (by omega)
 refine bX (hR K Q (k+3:Nat) w L c9) ?_ ?_
 rotate_left
 ·clear h1 h2 al aW aM a0 a4 cz bz b3 bM cI cB
  intro s ay
  refine ou (fun s=>s.af 10= .d (.int .i64 (k+1+3:Nat))∧hR K Q (k+1+3:Nat) w L c9 s) ?_ ?_
  rotate_left
  ·rintro s ⟨cB,ay⟩
   refine⟨⟨k+1,c9,bp,er,g6,ay⟩,?_⟩
   simp only[cB,v5]
   omega
  obtain⟨h1,h2,al,aW,⟨aM,a0⟩,⟨a4,cz⟩,⟨bz,b3⟩,⟨bM,cI⟩,cB⟩:=ay
  have cx:((k+3:Nat):Int)+1=((k+1+3:Nat):Int):=by omega
  simp (maxSteps:=2000000) only[↓ak,aj,↓reduceIte,reduceCtorEq,Nat.reduceEqDiff,Nat.reduceLeDiff,Nat.reduceSub,Nat.reduceAdd,Int.reduceToNat,Nat.reducePow,Int.reducePow,Int.reduceLE,Int.reduceLT,IntKind.bits,h1,h2,al,aW,aM,a0,a4,cz,bz,b3,bM,cI,cB,cx,cr,b8,hR]
  simp only[aG];omega
 rw[jF]
 have es:(Q:Int) - ((k+3:Nat):Int)=((Q - (k+3):Nat):Int):=by omega
 have y7:Q - (k+3)≤64:=by omega
 have ar:=Rh K (Q - (k+3))
 have qm:((1:Int)==1)=true:=rfl
 have KG:((0:Int)==1)=false:=rfl
 obtain⟨t,ae⟩:∃t:Bool,t=decide (K / 2^(Q - (k+3)) % 2=1):=⟨_,rfl⟩
 refine bX (fun s=>s.af 32= .d (.bool t)∧hR K Q (k+3:Nat) w L p s) ?_ ?_
 ·rcases (by omega:K / 2^(Q - (k+3)) % 2=1∨K / 2^(Q - (k+3)) % 2=0)with ao|ao
  ·rw[ao]at ar
   have ar:ji .i64 ((K:Int).fdiv (2^(Q - (k+3)))) 1=1:=ar
   have ae:t=true:=by rw[ae,ao];rfl
   simp (maxSteps:=2000000) only[↓ak,aj,↓reduceIte,reduceCtorEq,Nat.reduceEqDiff,Nat.reduceLeDiff,Nat.reduceSub,Nat.reduceAdd,Int.reduceToNat,Nat.reducePow,Int.reducePow,Int.reduceLE,Int.reduceLT,IntKind.bits,h1,h2,al,aW,aM,a0,a4,cz,bz,b3,bM,cI,cB,es,y7,ar,qm,ae,cr,b8,hR]
   exact⟨by simp only[aG];omega,by omega⟩
  ·rw[ao]at ar
   have ar:ji .i64 ((K:Int).fdiv (2^(Q - (k+3)))) 1=0:=ar
   have ae:t=false:=by rw[ae,ao];rfl
   simp (maxSteps:=2000000) only[↓ak,aj,↓reduceIte,reduceCtorEq,Nat.reduceEqDiff,Nat.reduceLeDiff,Nat.reduceSub,Nat.reduceAdd,Int.reduceToNat,Nat.reducePow,Int.reducePow,Int.reduceLE,Int.reduceLT,IntKind.bits,h1,h2,al,aW,aM,a0,a4,cz,bz,b3,bM,cI,cB,es,y7,ar,KG,ae,cr,b8,hR]
   exact⟨by simp only[aG];omega,by omega⟩
 clear h1 h2 al aW aM a0 a4 cz bz b3 bM cI cB
 rintro s ⟨Dk,h1,h2,al,aW,⟨aM,a0⟩,⟨a4,cz⟩,⟨bz,b3⟩,⟨bM,cI⟩,cB⟩
 cases t with
 |false=>
  have ao:¬(K / 2^(Q - (k+3)) % 2=1):=of_decide_eq_false ae.symm
  rw[if_neg ao]at mK
  subst mK
  simp (maxSteps:=2000000) only[↓ak,aj,↓reduceIte,reduceCtorEq,Nat.reduceEqDiff,Nat.reduceLeDiff,Nat.reduceSub,Nat.reduceAdd,Int.reduceToNat,Nat.reducePow,Int.reducePow,Int.reduceLE,Int.reduceLT,IntKind.bits,Dk,h1,h2,al,aW,aM,a0,a4,cz,bz,b3,bM,cI,cB,Bool.false_eq_true,cr,b8,hR]
 |true=>
  have ao:K / 2^(Q - (k+3)) % 2=1:=of_decide_eq_true ae.symm
  rw[if_pos ao]at mK
  refine acs Dk ?_
  have ajT:((k+3:Nat):Int) - 3=(k:Int):=by omega
  have ajU:k<L.length:=by omega
  have agi:(k:Int)<L.length:=by omega
  have KN:=VH k (by omega)
  generalize aA w k=q at*
  unfold kz a7 at KN
  refine bX (fun s=>hR K Q (k+3:Nat) w L p s∧gq 11 q s) ?_ ?_
  ·simp (maxSteps:=2000000) only[↓ak,aj,↓reduceIte,reduceCtorEq,Nat.reduceEqDiff,Nat.reduceLeDiff,Nat.reduceSub,Nat.reduceAdd,Int.reduceToNat,Nat.reducePow,Int.reducePow,Int.reduceLE,Int.reduceLT,IntKind.bits,Dk,h1,h2,al,aW,aM,a0,a4,cz,bz,b3,bM,cI,cB,ajT,ajU,agi,KN,Int.toNat_natCast,cr,b8,gq,hR]
   ((repeat' apply And.intro)<;>first|assumption|with_reducible rfl|omega|(simp only[aG];omega)|exact⟨_,rfl⟩|exact⟨_,_,_,rfl⟩|exact⟨_,_,_,_,_,_,rfl⟩)
  clear h1 h2 al aW aM a0 a4 cz bz b3 bM cI cB Dk
  rintro s ⟨⟨h1,h2,al,aW,⟨aM,a0⟩,⟨a4,cz⟩,⟨bz,b3⟩,⟨bM,cI⟩,cB⟩,hO,x8⟩
  have u:∀{lo hi:Int} {x:bD},x.win lo hi→-25000≤lo→hi≤25000→wk x:=fun h l k=>ff h l k
  have v:∀{lo hi:Int} {x:bD},x.win lo hi→-50000≤lo→hi≤50000→hk x:=fun h l k=>ff h l k
  have zu:∀{x y:bD},x.win (-((k:Int)*(2*w+16))) (1+10*k)→y.win (-(2*w+16)) 8→qh.pre [aQ x,aQ y]∧qh.res [aQ x,aQ y]=aQ (cO x y):=fun {x y} ah hy=>
   ⟨⟨x,y,rfl,u ah (by omega) (by omega),u hy (by omega) (by omega)⟩,by simp only[qh,aQ,a7,dw]⟩
  obtain⟨gw,iS⟩:=zu kr.1 lg.1
  obtain⟨hG,k9⟩:=zu kr.2 lg.2
  obtain⟨oa,ur⟩:=zu kr.2 lg.1
  obtain⟨pd,qx⟩:=zu kr.1 lg.2
  have bW:=mo kr.1 lg.1
  have cy:=mo kr.2 lg.2
  have lb:=mo kr.2 lg.1
  have zv:=mo kr.1 lg.2
  have wf:=ll cy
  have wa:=mq bW wf
  have wb:=mq lb zv
  have iX:iw.pre [aQ (cO p.s q.s)]:=⟨_,rfl⟩
  have hh:iw.res [aQ (cO p.s q.s)]=aQ (cZ (cO p.s q.s)):=by simp only[iw,aQ,a7,dw]
  have pa:iP.pre [aQ (cO p.c q.c),aQ (cZ (cO p.s q.s))]:=⟨_,_,rfl,v bW (by omega) (by omega),v wf (by omega) (by omega)⟩
  have jC:iP.res [aQ (cO p.c q.c),aQ (cZ (cO p.s q.s))]=aQ (dB (cO p.c q.c) (cZ (cO p.s q.s))):=by simp only[iP,aQ,a7,dw]
  have ma:iP.pre [aQ (cO p.s q.c),aQ (cO p.c q.s)]:=⟨_,_,rfl,v lb (by omega) (by omega),v zv (by omega) (by omega)⟩
  have oc:iP.res [aQ (cO p.s q.c),aQ (cO p.c q.s)]=aQ (dB (cO p.s q.c) (cO p.c q.s)):=by simp only[iP,aQ,a7,dw]
  have hj:n2.pre [aQ (dB (cO p.c q.c) (cZ (cO p.s q.s))),.int .i64 w]:=⟨_,w,rfl,v wa (by omega) (by omega),eA,by omega⟩
  have rc:n2.res [aQ (dB (cO p.c q.c) (cZ (cO p.s q.s))),.int .i64 w]=aQ (kh (dB (cO p.c q.c) (cZ (cO p.s q.s))) w):=by simp only[n2,aQ,a7,dw]
  have Ls:n2.pre [aQ (dB (cO p.s q.c) (cO p.c q.s)),.int .i64 w]:=⟨_,w,rfl,v wb (by omega) (by omega),eA,by omega⟩
  have rd:n2.res [aQ (dB (cO p.s q.c) (cO p.c q.s)),.int .i64 w]=aQ (kh (dB (cO p.s q.c) (cO p.c q.s)) w):=by simp only[n2,aQ,a7,dw]
  have Y9:c9=⟨kh (dB (cO p.c q.c) (cZ (cO p.s q.s))) w,kh (dB (cO p.s q.c) (cO p.c q.s)) w⟩:=mK
  rw[Y9]
  clear zu bW cy lb zv wf wa wb er g6 mK Y9 VH KN kr lg e7
  generalize cO p.c q.c=m5 at*
  generalize cO p.s q.s=YS at*
  generalize cO p.s q.c=ak8 at*
  generalize cO p.c q.s=ak9 at*
  generalize cZ YS=ala at*
  generalize dB m5 ala=Lv at*
  generalize dB ak8 ak9=Lw at*
  generalize kh Lv w=alb at*
  generalize kh Lw w=amF at*
  unfold aQ a7 at gw iS hG k9 oa ur pd qx iX hh pa jC ma oc hj rc Ls rd
  refine bX (fun s=>hR K Q (k+3:Nat) w L p s∧gq 11 q s∧b8 12 Lv s) ?_ ?_
  ·simp (maxSteps:=2000000) only[↓ak,aj,↓reduceIte,reduceCtorEq,Nat.reduceEqDiff,Nat.reduceLeDiff,Nat.reduceSub,Nat.reduceAdd,Int.reduceToNat,Nat.reducePow,Int.reducePow,Int.reduceLE,Int.reduceLT,IntKind.bits,h1,h2,al,aW,aM,a0,a4,cz,bz,b3,bM,cI,cB,hO,x8,VF,gw,iS,hG,k9,vY,iX,hh,zc,pa,jC,cr,b8,gq,hR]
   (repeat' apply And.intro)<;>decide
  clear h1 h2 al aW aM a0 a4 cz bz b3 bM cI cB hO x8
  rintro s ⟨⟨h1,h2,al,aW,⟨aM,a0⟩,⟨a4,cz⟩,⟨bz,b3⟩,⟨bM,cI⟩,cB⟩,⟨hO,x8⟩,dk,n3⟩
  refine bX (fun s=>hR K Q (k+3:Nat) w L p s∧b8 12 Lv s∧b8 13 Lw s) ?_ ?_
  ·simp (maxSteps:=2000000) only[↓ak,aj,↓reduceIte,reduceCtorEq,Nat.reduceEqDiff,Nat.reduceLeDiff,Nat.reduceSub,Nat.reduceAdd,Int.reduceToNat,Nat.reducePow,Int.reducePow,Int.reduceLE,Int.reduceLT,IntKind.bits,h1,h2,al,aW,aM,a0,a4,cz,bz,b3,bM,cI,cB,hO,x8,dk,n3,VF,oa,ur,pd,qx,zc,ma,oc,cr,b8,gq,hR]
   (repeat' apply And.intro)<;>decide
  clear h1 h2 al aW aM a0 a4 cz bz b3 bM cI cB hO x8 dk n3
  rintro s ⟨⟨h1,h2,al,aW,⟨aM,a0⟩,⟨a4,cz⟩,⟨bz,b3⟩,⟨bM,cI⟩,cB⟩,⟨dk,n3⟩,dC,k2⟩
  refine bX (fun s=>hR K Q (k+3:Nat) w L ⟨alb,p.s⟩ s∧b8 13 Lw s) ?_ ?_
  ·simp (maxSteps:=2000000) only[↓ak,aj,↓reduceIte,reduceCtorEq,Nat.reduceEqDiff,Nat.reduceLeDiff,Nat.reduceSub,Nat.reduceAdd,Int.reduceToNat,Nat.reducePow,Int.reducePow,Int.reduceLE,Int.reduceLT,IntKind.bits,h1,h2,al,aW,aM,a0,a4,cz,bz,b3,bM,cI,cB,dk,n3,dC,k2,VG,hj,rc,cr,b8,hR]
  clear h1 h2 al aW aM a0 a4 cz bz b3 bM cI cB dk n3 dC k2
  rintro s ⟨⟨h1,h2,al,aW,⟨aM,a0⟩,⟨a4,cz⟩,⟨bz,b3⟩,⟨bM,cI⟩,cB⟩,dC,k2⟩
  simp (maxSteps:=2000000) only[↓ak,aj,↓reduceIte,reduceCtorEq,Nat.reduceEqDiff,Nat.reduceLeDiff,Nat.reduceSub,Nat.reduceAdd,Int.reduceToNat,Nat.reducePow,Int.reducePow,Int.reduceLE,Int.reduceLT,IntKind.bits,h1,h2,al,aW,aM,a0,a4,cz,bz,b3,bM,cI,cB,dC,k2,VG,Ls,rd,cr,b8,hR]
theorem Nk {a q:Nat} (h:a<1152921504606846976) (aZ:q≤60):a5 a≤q↔2^(60 - q)∣a:=by
 by_cases h0:a=0
 ·subst h0;exact⟨fun _=>Nat.dvd_zero _,fun _=>by rw[pC.2];omega⟩
 ·have bg:=B0 h0 h
  have e:a5 a=60 - bJ a:=by unfold a5;rw[if_neg h0]
  have ay:=(hJ h0).1
  constructor
  ·intro k
   rw[←ay]
   refine Nat.dvd_trans ?_ (Nat.dvd_mul_left _ _)
   exact Nat.pow_dvd_pow 2 (show 60 - q≤bJ a by omega)
  ·intro k
   have:=Oy (k:=60 - q) h0 (Nat.mod_eq_zero_of_dvd k)
   omega
theorem aei {a q:Nat} (h:a<1152921504606846976) (al:3≤q) (aZ:q≤60) (k:a5 a≤q):a5 (cg a)≤q:=by
 rw[Nk h aZ]at k
 rw[Nk (by have:=u9 a;omega) aZ]
 have d:2^(60 - q)∣144115188075855872:=by
  rw[show 144115188075855872=2^57 by decide]
  exact Nat.pow_dvd_pow 2 (by omega)
 unfold cg
 split
 ·exact Nat.dvd_sub k (Nat.dvd_trans d (Nat.dvd_mul_left _ _))
 ·exact Nat.dvd_sub (Nat.dvd_trans d (Nat.dvd_mul_left _ _)) k
def l3:bq where
 pre:=fun ds=>∃(K:Int) (Q:Nat) (w:Int),ds=[cl K Q,.int .i64 w]∧Q≤60∧aG K∧a5 (an K Q)≤14∧0≤w∧w≤800
 res:=fun ds=>match ds with
  |[.agg [.int _ K,.int _ Q],.int _ w]=>ix (dt (an K Q.toNat) w)
  |_=> .nilp
theorem ajV (Γ:Env) (m1:Γ.has 80 k6) (agj:Γ.has 115 p2) (agk:Γ.has 114 pZ) (ds:List D) (h:l3.pre ds):bH Γ JN JO ds fun d=>d=l3.res ds:=by
 obtain⟨K,Q,w,rfl,cn,bV,aZ,eA,g9⟩:=h
 have cq:l3.res [cl K Q,.int .i64 w]=ix (dt (an K Q) w):=by simp only[l3,cl,Int.toNat_natCast]
 rw[cq]
 have ck:=ig K Q
 have p1:=i80 cn bV
 have bP:=tW K Q
 obtain⟨q,amb⟩:∃q,q=max (a5 (an K Q)) 3:=⟨_,rfl⟩
 have amc:=aei ck (q:=q) (by omega) (by omega) (by omega)
 have ajW:(if (3:Int)>((a5 (an K Q):Nat):Int)then (3:Int)else ((a5 (an K Q):Nat):Int))=(q:Int):=by split<;>omega
 have cS:p2.pre [.int .i64 q,.int .i64 w]:=⟨q,w,rfl,by omega,by omega,eA,g9⟩
 have ca:p2.res [.int .i64 q,.int .i64 w]= .recs 12 (gG w (q - 2)):=by
  simp only[p2,show ((q:Int) - 2).toNat=q - 2 by omega];rfl
 have g2:pZ.pre [.agg [.int .i64 K,.int .i64 Q],.int .i64 w,.recs 12 (gG w (q - 2))]:=⟨K,Q,w,q - 2,rfl,cn,bV,by omega,by omega,eA,g9⟩
 have g1:pZ.res [.agg [.int .i64 K,.int .i64 Q],.int .i64 w,.recs 12 (gG w (q - 2))]=ix (dt (an K Q) w):=by simp only[pZ,Int.toNat_natCast]
 generalize dt (an K Q) w=z at*
 generalize gG w (q - 2)=L at*
 generalize a5 (an K Q)=g at*
 generalize b6 (an K Q)=amG at*
 unfold ix aQ a7 at g1
 rw[fP]
 unfold JN JO
 refine bX (fun s=>s.af 1= .d (.int .i64 w)∧s.af 2= .box 2 0∧s.aw 2=some ⟨false,false,.cells [.d (.int .i64 K),.d (.int .i64 Q)]⟩∧cr 4 s∧cr 5 s) ?_ ?_
 ·simp (maxSteps:=2000000) only[↓ak,aj,↓reduceIte,reduceCtorEq,Nat.reduceEqDiff,Nat.reduceLeDiff,Nat.reduceSub,Nat.reduceAdd,Int.reduceToNat,Nat.reducePow,Int.reducePow,Int.reduceLE,Int.reduceLT,IntKind.bits,cl,cr]
 rintro s ⟨h1,h2,aY,⟨aE,aU⟩,aI,a9⟩
 refine bX (fun s=>cr 4 s∧cr 5 s∧b8 6 z.c s∧b8 7 z.s s) ?_ ?_
 ·simp (maxSteps:=2000000) only[↓ak,aj,↓reduceIte,reduceCtorEq,Nat.reduceEqDiff,Nat.reduceLeDiff,Nat.reduceSub,Nat.reduceAdd,Int.reduceToNat,Nat.reducePow,Int.reducePow,Int.reduceLE,Int.reduceLT,IntKind.bits,h1,h2,aY,aE,aU,aI,a9,m1,p1,bP,ajW,agj,cS,ca,agk,g2,g1,cr,b8]
  (repeat' apply And.intro)<;>decide
 clear h1 h2 aY aE aU aI a9
 rintro s ⟨⟨aE,aU⟩,⟨aI,a9⟩,⟨aM,a0⟩,a4,cz⟩
 simp (maxSteps:=2000000) only[↓ak,aj,↓reduceIte,reduceCtorEq,Nat.reduceEqDiff,Nat.reduceLeDiff,Nat.reduceSub,Nat.reduceAdd,Int.reduceToNat,Nat.reducePow,Int.reducePow,Int.reduceLE,Int.reduceLT,IntKind.bits,aE,aU,aI,a9,aM,a0,a4,cz,ix,aQ,a7]
 exact⟨by decide,by decide⟩
def g3 (K Q n:Int) (w:Int) (s:St):Prop:=s.af 1= .d (.int .i64 n)∧s.af 2= .box 2 0∧s.aw 2=some ⟨false,false,.cells [.d (.int .i64 K),.d (.int .i64 Q)]⟩∧cr 4 s∧s.af 5= .d (.int .i64 w)
def r9 (aK:Int) (s:St):Nat:=match s.af 5 with
 | .d (.int _ w)=>(aK+1000 - w).toNat
 |_=>0
def qp:bq where
 pre:=fun ds=>∃(K:Int) (Q n:Nat),ds=[cl K Q,.int .i64 n]∧Q≤60∧aG K∧a5 (an K Q)≤14∧n≤160
 res:=fun ds=>match ds with
  |[.agg [.int _ K,.int _ Q],.int _ n]=>aQ (fC false (an K Q.toNat) n)
  |_=> .nilp
theorem ajX (Γ:Env) (m1:Γ.has 80 k6) (KO:Γ.has 81 l3) (KP:Γ.has 82 l0) (ds:List D) (h:qp.pre ds):bH Γ I4 I5 ds fun d=>d=qp.res ds:=by
 obtain⟨K,Q,n,rfl,cn,bV,aZ,aH⟩:=h
 have cq:qp.res [cl K Q,.int .i64 n]=aQ (fC false (an K Q) n):=by simp only[qp,cl,Int.toNat_natCast]
 rw[cq]
 have ck:=ig K Q
 have zr:=i80 cn bV
 have zt:=tW K Q
 have iR:=uV ck aZ
 have aE:=Aw ck aZ aH
 have sk:∀w:Int,0≤w→w≤800→l3.pre [.agg [.int .i64 K,.int .i64 Q],.int .i64 w]:=fun w h0 h1=>⟨K,Q,w,rfl,cn,bV,aZ,h0,h1⟩
 have sl:∀w:Int,l3.res [.agg [.int .i64 K,.int .i64 Q],.int .i64 w]=ix (dt (an K Q) w):=fun w=>by simp only[l3,Int.toNat_natCast]
 have g6:∀w:Int,0≤w→w≤800→(dt (an K Q) w).win (-20000) 200:=fun w h0 h1=>uW iR h0 h1
 unfold fC
 generalize an K Q=a at*
 generalize b6 a=k at*
 obtain⟨aK,eA⟩:∃aK:Int,aK=(n:Int)+2*a5 a+40:=⟨_,rfl⟩
 rw[←eA]at aE⊢
 obtain⟨R,dF⟩:∃R,R=gV false a n 4 aK:=⟨_,rfl⟩
 rw[←dF]
 rw[fP]
 unfold I4 I5
 refine bX (fun s=>s.af 1= .d (.int .i64 n)∧s.af 2= .box 2 0∧s.aw 2=some ⟨false,false,.cells [.d (.int .i64 K),.d (.int .i64 Q)]⟩∧cr 4 s) ?_ ?_
 ·simp (maxSteps:=2000000) only[↓ak,aj,↓reduceIte,reduceCtorEq,Nat.reduceEqDiff,Nat.reduceLeDiff,Nat.reduceSub,Nat.reduceAdd,Int.reduceToNat,Nat.reducePow,Int.reducePow,Int.reduceLE,Int.reduceLT,IntKind.bits,cl,cr]
 rintro s ⟨h1,h2,aY,fo,aU⟩
 refine bX (g3 K Q n aK) ?_ ?_
 ·simp (maxSteps:=2000000) only[↓ak,aj,↓reduceIte,reduceCtorEq,Nat.reduceEqDiff,Nat.reduceLeDiff,Nat.reduceSub,Nat.reduceAdd,Int.reduceToNat,Nat.reducePow,Int.reducePow,Int.reduceLE,Int.reduceLT,IntKind.bits,h1,h2,aY,fo,aU,m1,zr,zt,cr,g3]
  rw[eA]
  ((repeat' apply And.intro)<;>first|assumption|with_reducible rfl|omega|(simp only[aG];omega)|exact⟨_,rfl⟩|exact⟨_,_,_,rfl⟩|exact⟨_,_,_,_,_,_,rfl⟩)
 clear h1 h2 aY fo aU
 intro s ay
 rw[jF]
 refine eC (fun s=>∃m:Nat,m≤4∧gV false a n (4 - m) (aK+64*m)=R∧g3 K Q n (aK+64*m) s) (r9 aK) ⟨0,by omega,by rw[dF,Int.natCast_zero,Int.mul_zero,Int.add_zero],by rw[Int.natCast_zero,Int.mul_zero,Int.add_zero];exact ay⟩ ?_
 clear ay
 rintro s ⟨m,hm,hf,h1,h2,aY,⟨fo,aU⟩,aI⟩
 obtain⟨w,sm⟩:∃w,w=aK+64*(m:Int):=⟨_,rfl⟩
 have hZ:0≤w∧w≤800:=by omega
 have r7:aK+64*((m+1:Nat):Int)=w+64:=by omega
 have m3:m=4→fK (ja false (dt a w)) n=true:=fun e=>by
  rw[sm,e,show ((4:Nat):Int)=4 from rfl]
  exact aE.1
 rw[←sm]at hf aI
 have zb:r9 aK s=(aK+1000 - w).toNat:=by unfold r9;rw[aI]
 have od:=sk w hZ.1 hZ.2
 have ro:=sl w
 have hw:=g6 w hZ.1 hZ.2
 clear sk sl g6 aE dF
 have r8:gV false a n (4 - m) w=if fK (ja false (dt a w)) n=true then eo (ja false (dt a w)) n else if m=4 then eo (ja false (dt a w)) n else gV false a n (4 - (m+1)) (w+64):=by
  by_cases cx:m=4
  ·subst cx
   rw[if_pos rfl]
   show eo _ _=_
   split<;>rfl
  ·rw[show 4 - m=4 - (m+1)+1 by omega,if_neg cx];rfl
 rw[r8]at hf
 clear r8
 generalize dt a w=P at*
 have o3:P.c.win (-20000) 200:=hw.1
 have hf:(if fK P.c n=true then eo P.c n else if m=4 then eo P.c n else gV false a n (4 - (m+1)) (w+64))=R:=hf
 have m3:m=4→fK P.c n=true:=m3
 obtain⟨y,hy⟩:∃y,y=eo P.c n:=⟨_,rfl⟩
 obtain⟨ok,b9⟩:∃ok,ok=fK P.c n:=⟨_,rfl⟩
 have iV:l0.pre [aQ P.c,.int .i64 n]:=⟨P.c,n,rfl,win.up o3.1 (by omega) (by omega),win.up o3.2 (by omega) (by omega),by omega,by omega⟩
 have cM:l0.res [aQ P.c,.int .i64 n]= .ep [aQ y,.bool ok]:=by
  have:=Ru (sP o3) n
  simp only[l0,aQ,a7,dw,hy,b9,this]
 rw[←b9]at hf m3
 rw[←hy]at hf
 clear hy b9
 refine bX (fun s=>ok=false∧g3 K Q n w s) ?_ ?_
 ·rw[jF]
  refine bX (fun s=>g3 K Q n w s∧b8 6 P.c s) ?_ ?_
  ·unfold ix aQ a7 at ro
   simp (maxSteps:=2000000) only[↓ak,aj,↓reduceIte,reduceCtorEq,Nat.reduceEqDiff,Nat.reduceLeDiff,Nat.reduceSub,Nat.reduceAdd,Int.reduceToNat,Nat.reducePow,Int.reducePow,Int.reduceLE,Int.reduceLT,IntKind.bits,h1,h2,aY,fo,aU,aI,KO,od,ro,cr,b8,g3]
  clear h1 h2 aY fo aU aI od ro
  rintro s ⟨⟨h1,h2,aY,⟨fo,aU⟩,aI⟩,aM,a0⟩
  refine bX (fun s=>g3 K Q n w s∧b8 8 y s∧s.af 9= .d (.bool ok)) ?_ ?_
  ·unfold aQ a7 at iV cM
   simp (maxSteps:=2000000) only[↓ak,aj,↓reduceIte,reduceCtorEq,Nat.reduceEqDiff,Nat.reduceLeDiff,Nat.reduceSub,Nat.reduceAdd,Int.reduceToNat,Nat.reducePow,Int.reducePow,Int.reduceLE,Int.reduceLT,IntKind.bits,h1,h2,aY,fo,aU,aI,aM,a0,KP,iV,cM,cr,b8,g3]
  clear h1 h2 aY fo aU aI aM a0 iV cM
  rintro s ⟨⟨h1,h2,aY,⟨fo,aU⟩,aI⟩,⟨bz,b3⟩,bM⟩
  cases ok with
  |true=>
   rw[if_pos rfl]at hf
   subst hf
   unfold aQ a7
   simp (maxSteps:=2000000) only[↓ak,aj,↓reduceIte,reduceCtorEq,Nat.reduceEqDiff,Nat.reduceLeDiff,Nat.reduceSub,Nat.reduceAdd,Int.reduceToNat,Nat.reducePow,Int.reducePow,Int.reduceLE,Int.reduceLT,IntKind.bits,h1,h2,aY,fo,aU,aI,bz,b3,bM,cr,b8,g3]
  |false=>
   simp (maxSteps:=2000000) only[↓ak,aj,↓reduceIte,reduceCtorEq,Nat.reduceEqDiff,Nat.reduceLeDiff,Nat.reduceSub,Nat.reduceAdd,Int.reduceToNat,Nat.reducePow,Int.reducePow,Int.reduceLE,Int.reduceLT,IntKind.bits,h1,h2,aY,fo,aU,aI,bz,b3,bM,cr,b8,g3,Bool.false_eq_true]
 clear h1 h2 aY fo aU aI od ro
 rintro s ⟨b9,h1,h2,aY,⟨fo,aU⟩,aI⟩
 subst b9
 have cx:m≠4:=fun e=>by have:=m3 e;cases this
 rw[if_neg (by decide),if_neg cx]at hf
 refine ou (g3 K Q n (w+64)) ?_ ?_
 ·simp (maxSteps:=2000000) only[↓ak,aj,↓reduceIte,reduceCtorEq,Nat.reduceEqDiff,Nat.reduceLeDiff,Nat.reduceSub,Nat.reduceAdd,Int.reduceToNat,Nat.reducePow,Int.reducePow,Int.reduceLE,Int.reduceLT,IntKind.bits,h1,h2,aY,fo,aU,aI,cr,g3]
  simp only[aG];omega
 intro df ay
 refine⟨⟨m+1,by omega,by rw[r7];exact hf,by rw[r7];exact ay⟩,?_⟩
 rw[zb]
 unfold r9
 rw[ay.2.2.2.2]
 simp only
 omega
def qq:bq where
 pre:=fun ds=>∃(K:Int) (Q n:Nat),ds=[cl K Q,.int .i64 n]∧Q≤60∧aG K∧a5 (an K Q)≤14∧n≤160
 res:=fun ds=>match ds with
  |[.agg [.int _ K,.int _ Q],.int _ n]=>aQ (fC true (an K Q.toNat) n)
  |_=> .nilp
theorem ajY (Γ:Env) (m1:Γ.has 80 k6) (KO:Γ.has 81 l3) (KP:Γ.has 82 l0) (ds:List D) (h:qq.pre ds):bH Γ I8 I9 ds fun d=>d=qq.res ds:=by
 obtain⟨K,Q,n,rfl,cn,bV,aZ,aH⟩:=h
 have cq:qq.res [cl K Q,.int .i64 n]=aQ (fC true (an K Q) n):=by simp only[qq,cl,Int.toNat_natCast]
 rw[cq]
 have ck:=ig K Q
 have zr:=i80 cn bV
 have zt:=tW K Q
 have iR:=uV ck aZ
 have aE:=Aw ck aZ aH
 have sk:∀w:Int,0≤w→w≤800→l3.pre [.agg [.int .i64 K,.int .i64 Q],.int .i64 w]:=fun w h0 h1=>⟨K,Q,w,rfl,cn,bV,aZ,h0,h1⟩
 have sl:∀w:Int,l3.res [.agg [.int .i64 K,.int .i64 Q],.int .i64 w]=ix (dt (an K Q) w):=fun w=>by simp only[l3,Int.toNat_natCast]
 have g6:∀w:Int,0≤w→w≤800→(dt (an K Q) w).win (-20000) 200:=fun w h0 h1=>uW iR h0 h1
 unfold fC
 generalize an K Q=a at*
 generalize b6 a=k at*
 obtain⟨aK,eA⟩:∃aK:Int,aK=(n:Int)+2*a5 a+40:=⟨_,rfl⟩
 rw[←eA]at aE⊢
 obtain⟨R,dF⟩:∃R,R=gV true a n 4 aK:=⟨_,rfl⟩
 rw[←dF]
 rw[fP]
 unfold I8 I9
 refine bX (fun s=>s.af 1= .d (.int .i64 n)∧s.af 2= .box 2 0∧s.aw 2=some ⟨false,false,.cells [.d (.int .i64 K),.d (.int .i64 Q)]⟩∧cr 4 s) ?_ ?_
 ·simp (maxSteps:=2000000) only[↓ak,aj,↓reduceIte,reduceCtorEq,Nat.reduceEqDiff,Nat.reduceLeDiff,Nat.reduceSub,Nat.reduceAdd,Int.reduceToNat,Nat.reducePow,Int.reducePow,Int.reduceLE,Int.reduceLT,IntKind.bits,cl,cr]
 rintro s ⟨h1,h2,aY,fo,aU⟩
 refine bX (g3 K Q n aK) ?_ ?_
 ·simp (maxSteps:=2000000) only[↓ak,aj,↓reduceIte,reduceCtorEq,Nat.reduceEqDiff,Nat.reduceLeDiff,Nat.reduceSub,Nat.reduceAdd,Int.reduceToNat,Nat.reducePow,Int.reducePow,Int.reduceLE,Int.reduceLT,IntKind.bits,h1,h2,aY,fo,aU,m1,zr,zt,cr,g3]
  rw[eA]
  ((repeat' apply And.intro)<;>first|assumption|with_reducible rfl|omega|(simp only[aG];omega)|exact⟨_,rfl⟩|exact⟨_,_,_,rfl⟩|exact⟨_,_,_,_,_,_,rfl⟩)
 clear h1 h2 aY fo aU
 intro s ay
 rw[jF]
 refine eC (fun s=>∃m:Nat,m≤4∧gV true a n (4 - m) (aK+64*m)=R∧g3 K Q n (aK+64*m) s) (r9 aK) ⟨0,by omega,by rw[dF,Int.natCast_zero,Int.mul_zero,Int.add_zero],by rw[Int.natCast_zero,Int.mul_zero,Int.add_zero];exact ay⟩ ?_
 clear ay
 rintro s ⟨m,hm,hf,h1,h2,aY,⟨fo,aU⟩,aI⟩
 obtain⟨w,sm⟩:∃w,w=aK+64*(m:Int):=⟨_,rfl⟩
 have hZ:0≤w∧w≤800:=by omega
 have r7:aK+64*((m+1:Nat):Int)=w+64:=by omega
 have m3:m=4→fK (ja true (dt a w)) n=true:=fun e=>by
  rw[sm,e,show ((4:Nat):Int)=4 from rfl]
  exact aE.2
 rw[←sm]at hf aI
 have zb:r9 aK s=(aK+1000 - w).toNat:=by unfold r9;rw[aI]
 have od:=sk w hZ.1 hZ.2
 have ro:=sl w
 have hw:=g6 w hZ.1 hZ.2
 clear sk sl g6 aE dF
 have r8:gV true a n (4 - m) w=if fK (ja true (dt a w)) n=true then eo (ja true (dt a w)) n else if m=4 then eo (ja true (dt a w)) n else gV true a n (4 - (m+1)) (w+64):=by
  by_cases cx:m=4
  ·subst cx
   rw[if_pos rfl]
   show eo _ _=_
   split<;>rfl
  ·rw[show 4 - m=4 - (m+1)+1 by omega,if_neg cx];rfl
 rw[r8]at hf
 clear r8
 generalize dt a w=P at*
 have o3:P.s.win (-20000) 200:=hw.2
 have hf:(if fK P.s n=true then eo P.s n else if m=4 then eo P.s n else gV true a n (4 - (m+1)) (w+64))=R:=hf
 have m3:m=4→fK P.s n=true:=m3
 obtain⟨y,hy⟩:∃y,y=eo P.s n:=⟨_,rfl⟩
 obtain⟨ok,b9⟩:∃ok,ok=fK P.s n:=⟨_,rfl⟩
 have iV:l0.pre [aQ P.s,.int .i64 n]:=⟨P.s,n,rfl,win.up o3.1 (by omega) (by omega),win.up o3.2 (by omega) (by omega),by omega,by omega⟩
 have cM:l0.res [aQ P.s,.int .i64 n]= .ep [aQ y,.bool ok]:=by
  have:=Ru (sP o3) n
  simp only[l0,aQ,a7,dw,hy,b9,this]
 rw[←b9]at hf m3
 rw[←hy]at hf
 clear hy b9
 refine bX (fun s=>ok=false∧g3 K Q n w s) ?_ ?_
 ·rw[jF]
  refine bX (fun s=>g3 K Q n w s∧b8 7 P.s s) ?_ ?_
  ·unfold ix aQ a7 at ro
   simp (maxSteps:=2000000) only[↓ak,aj,↓reduceIte,reduceCtorEq,Nat.reduceEqDiff,Nat.reduceLeDiff,Nat.reduceSub,Nat.reduceAdd,Int.reduceToNat,Nat.reducePow,Int.reducePow,Int.reduceLE,Int.reduceLT,IntKind.bits,h1,h2,aY,fo,aU,aI,KO,od,ro,cr,b8,g3]
  clear h1 h2 aY fo aU aI od ro
  rintro s ⟨⟨h1,h2,aY,⟨fo,aU⟩,aI⟩,aM,a0⟩
  refine bX (fun s=>g3 K Q n w s∧b8 8 y s∧s.af 9= .d (.bool ok)) ?_ ?_
  ·unfold aQ a7 at iV cM
   simp (maxSteps:=2000000) only[↓ak,aj,↓reduceIte,reduceCtorEq,Nat.reduceEqDiff,Nat.reduceLeDiff,Nat.reduceSub,Nat.reduceAdd,Int.reduceToNat,Nat.reducePow,Int.reducePow,Int.reduceLE,Int.reduceLT,IntKind.bits,h1,h2,aY,fo,aU,aI,aM,a0,KP,iV,cM,cr,b8,g3]
  clear h1 h2 aY fo aU aI aM a0 iV cM
  rintro s ⟨⟨h1,h2,aY,⟨fo,aU⟩,aI⟩,⟨bz,b3⟩,bM⟩
  cases ok with
  |true=>
   rw[if_pos rfl]at hf
   subst hf
   unfold aQ a7
   simp (maxSteps:=2000000) only[↓ak,aj,↓reduceIte,reduceCtorEq,Nat.reduceEqDiff,Nat.reduceLeDiff,Nat.reduceSub,Nat.reduceAdd,Int.reduceToNat,Nat.reducePow,Int.reducePow,Int.reduceLE,Int.reduceLT,IntKind.bits,h1,h2,aY,fo,aU,aI,bz,b3,bM,cr,b8,g3]
  |false=>
   simp (maxSteps:=2000000) only[↓ak,aj,↓reduceIte,reduceCtorEq,Nat.reduceEqDiff,Nat.reduceLeDiff,Nat.reduceSub,Nat.reduceAdd,Int.reduceToNat,Nat.reducePow,Int.reducePow,Int.reduceLE,Int.reduceLT,IntKind.bits,h1,h2,aY,fo,aU,aI,bz,b3,bM,cr,b8,g3,Bool.false_eq_true]
 clear h1 h2 aY fo aU aI od ro
 rintro s ⟨b9,h1,h2,aY,⟨fo,aU⟩,aI⟩
 subst b9
 have cx:m≠4:=fun e=>by have:=m3 e;cases this
 rw[if_neg (by decide),if_neg cx]at hf
 refine ou (g3 K Q n (w+64)) ?_ ?_
 ·simp (maxSteps:=2000000) only[↓ak,aj,↓reduceIte,reduceCtorEq,Nat.reduceEqDiff,Nat.reduceLeDiff,Nat.reduceSub,Nat.reduceAdd,Int.reduceToNat,Nat.reducePow,Int.reducePow,Int.reduceLE,Int.reduceLT,IntKind.bits,h1,h2,aY,fo,aU,aI,cr,g3]
  simp only[aG];omega
 intro df ay
 refine⟨⟨m+1,by omega,by rw[r7];exact hf,by rw[r7];exact ay⟩,?_⟩
 rw[zb]
 unfold r9
 rw[ay.2.2.2.2]
 simp only
 omega
def ka:List D→Bool
 |[.int _ K,.int _ Q]=>decide (0≤Q∧Q≤40∧-1099511627776≤K∧K≤1099511627776) && decide (Q≤14)
 |_=>false
def sa:bq where
 pre:=fun ds=>∃rows:List (List D),ds=[.recs 2 rows]∧(∀r∈rows,∃K Q:Int,r=[.int .i64 K,.int .i64 Q])∧rows.length≤1000
 res:=fun ds=>match ds with
  |[.recs _ rows]=> .bool (rows.all ka)
  |_=> .nilp
theorem ajZ (Γ:Env) (KQ:Γ.has 77 tX) (ds:List D) (h:sa.pre ds):bH Γ IY IZ ds fun d=>d=sa.res ds:=by
 obtain⟨rows,rfl,HJ,hlen⟩:=h
 have cq:sa.res [.recs 2 rows]= .bool (rows.all ka):=rfl
 rw[cq]
 rw[fP]
 unfold IY IZ
 refine bX (fun s=>s.af 0= .d (.recs 2 rows)) ?_ ?_
 ·simp (maxSteps:=2000000) only[↓ak,aj,↓reduceIte,reduceCtorEq,Nat.reduceEqDiff,Nat.reduceLeDiff,Nat.reduceSub,Nat.reduceAdd,Int.reduceToNat,Nat.reducePow,Int.reducePow,Int.reduceLE,Int.reduceLT,IntKind.bits]
 rintro s h0
 refine cc (fun s=>∀k (ad:k<rows.length),ka rows[k]=true) ?_ ?_
 rotate_left
 ·intro s ay
  have:rows.all ka=true:=by
   rw[List.all_eq_true]
   intro x ah
   obtain⟨k,ad,rfl⟩:=List.getElem_of_mem ah
   exact ay k ad
  rw[this]
  simp (maxSteps:=2000000) only[↓ak,aj,↓reduceIte,reduceCtorEq,Nat.reduceEqDiff,Nat.reduceLeDiff,Nat.reduceSub,Nat.reduceAdd,Int.reduceToNat,Nat.reducePow,Int.reducePow,Int.reduceLE,Int.reduceLT,IntKind.bits]
 simp (maxSteps:=2000000) only[↓ak,aj,↓reduceIte,reduceCtorEq,Nat.reduceEqDiff,Nat.reduceLeDiff,Nat.reduceSub,Nat.reduceAdd,Int.reduceToNat,Nat.reducePow,Int.reducePow,Int.reduceLE,Int.reduceLT,IntKind.bits,h0]
 refine eC (fun s=>∃i:Nat,s.af 0= .d (.recs 2 rows)∧s.af 3= .d (.int .i64 i)∧i≤rows.length∧∀k (ad:k<rows.length),k<i→ka rows[k]=true)
  (fun s=>match s.af 3 with| .d (.int _ n)=>rows.length - n.toNat|_=>0) ?_ ?_
 ·refine⟨0,?_⟩
  simp (maxSteps:=2000000) only[↓ak,aj,↓reduceIte,reduceCtorEq,Nat.reduceEqDiff,Nat.reduceLeDiff,Nat.reduceSub,Nat.reduceAdd,Int.reduceToNat,Nat.reducePow,Int.reducePow,Int.reduceLE,Int.reduceLT,IntKind.bits,h0]
  exact⟨rfl,Nat.zero_le _,fun k ad KC=>absurd KC (Nat.not_lt_zero _)⟩
 clear h0
 rintro s ⟨i,h0,al,hi,ad⟩
 have wu:=al
 refine bX (fun s=>(i:Int)<rows.length∧s.af 0= .d (.recs 2 rows)∧s.af 3= .d (.int .i64 i)) ?_ ?_
 ·by_cases ci:(i:Int)<rows.length
  ·simp (maxSteps:=2000000) only[↓ak,aj,↓reduceIte,reduceCtorEq,Nat.reduceEqDiff,Nat.reduceLeDiff,Nat.reduceSub,Nat.reduceAdd,Int.reduceToNat,Nat.reducePow,Int.reducePow,Int.reduceLE,Int.reduceLT,IntKind.bits,h0,al,ci]
  ·simp (maxSteps:=2000000) only[↓ak,aj,↓reduceIte,reduceCtorEq,Nat.reduceEqDiff,Nat.reduceLeDiff,Nat.reduceSub,Nat.reduceAdd,Int.reduceToNat,Nat.reducePow,Int.reducePow,Int.reduceLE,Int.reduceLT,IntKind.bits,h0,al,ci]
   exact fun k bY=>ad k bY (by omega)
 clear h0 al
 rintro s ⟨ci,h0,al⟩
 have fF:i<rows.length:=by omega
 obtain⟨K,Q,aq⟩:=HJ rows[i] (List.getElem_mem fF)
 have bb:rows.getD i []=[.int .i64 K,.int .i64 Q]:=by
  rw[List.getD_eq_getElem?_getD,List.getElem?_eq_getElem fF,Option.getD_some,aq]
 have mN:ka rows[i]=(decide (0≤Q∧Q≤40∧-1099511627776≤K∧K≤1099511627776) && decide (Q≤14)):=by rw[aq];rfl
 refine bX (fun s=>ka rows[i]=true∧s.af 0= .d (.recs 2 rows)∧s.af 3= .d (.int .i64 i)) ?_ ?_
 rotate_left
 ·clear h0 al
  rintro s ⟨KD,h0,al⟩
  simp (maxSteps:=2000000) only[↓ak,aj,↓reduceIte,reduceCtorEq,Nat.reduceEqDiff,Nat.reduceLeDiff,Nat.reduceSub,Nat.reduceAdd,Int.reduceToNat,Nat.reducePow,Int.reducePow,Int.reduceLE,Int.reduceLT,IntKind.bits,h0,al]
  refine⟨by simp only[aG];omega,⟨i+1,by omega,by omega,fun k bY vx=> ?_⟩,?_⟩
  ·rcases (by omega:k<i∨k=i)with e|rfl
   ·exact ad k bY e
   ·exact KD
  ·simp only[wu]
   omega
 rw[jF]
 have sj:tX.pre [.agg [.int .i64 K,.int .i64 Q]]:=⟨K,Q,rfl⟩
 have iy:tX.res [.agg [.int .i64 K,.int .i64 Q]]= .bool (decide (0≤Q∧Q≤40∧-1099511627776≤K∧K≤1099511627776)):=rfl
 generalize decide (0≤Q∧Q≤40∧-1099511627776≤K∧K≤1099511627776)=b at*
 cases b with
 |false=>
  have fB:rows.all ka=false:=FI fF (by rw[mN];rfl)
  rw[fB]
  simp (maxSteps:=2000000) only[↓ak,aj,↓reduceIte,reduceCtorEq,Nat.reduceEqDiff,Nat.reduceLeDiff,Nat.reduceSub,Nat.reduceAdd,Int.reduceToNat,Nat.reducePow,Int.reducePow,Int.reduceLE,Int.reduceLT,IntKind.bits,h0,al,ci,fF,bb,Int.toNat_natCast,KQ,sj,iy,Bool.not_false]
  first|done|((repeat' apply And.intro)<;>first|assumption|with_reducible rfl|omega|(simp only[aG];omega)|exact⟨_,rfl⟩|exact⟨_,_,_,rfl⟩|exact⟨_,_,_,_,_,_,rfl⟩)
 |true=>
  by_cases aZ:Q≤14
  ·have iR:¬(Q>14):=by omega
   have:ka rows[i]=true:=by rw[mN];simp[aZ]
   simp (maxSteps:=2000000) only[↓ak,aj,↓reduceIte,reduceCtorEq,Nat.reduceEqDiff,Nat.reduceLeDiff,Nat.reduceSub,Nat.reduceAdd,Int.reduceToNat,Nat.reducePow,Int.reducePow,Int.reduceLE,Int.reduceLT,IntKind.bits,h0,al,ci,fF,bb,Int.toNat_natCast,KQ,sj,iy,Bool.not_true,iR,this]
   first|done|((repeat' apply And.intro)<;>first|assumption|with_reducible rfl|omega|(simp only[aG];omega)|exact⟨_,rfl⟩|exact⟨_,_,_,rfl⟩|exact⟨_,_,_,_,_,_,rfl⟩)
  ·have iR:Q>14:=by omega
   have fB:rows.all ka=false:=FI fF (by rw[mN];simp[aZ])
   rw[fB]
   simp (maxSteps:=2000000) only[↓ak,aj,↓reduceIte,reduceCtorEq,Nat.reduceEqDiff,Nat.reduceLeDiff,Nat.reduceSub,Nat.reduceAdd,Int.reduceToNat,Nat.reducePow,Int.reducePow,Int.reduceLE,Int.reduceLT,IntKind.bits,h0,al,ci,fF,bb,Int.toNat_natCast,KQ,sj,iy,Bool.not_true,iR]
   first|done|((repeat' apply And.intro)<;>first|assumption|with_reducible rfl|omega|(simp only[aG];omega)|exact⟨_,rfl⟩|exact⟨_,_,_,rfl⟩|exact⟨_,_,_,_,_,_,rfl⟩)
def uc:bq where
 pre:=fun ds=>∃n:Int,ds=[.int .u8 n]∧0≤n∧n<256
 res:=fun ds=>match ds with
  |[.int _ n]=> .int .i64 (n % 70+1)
  |_=> .nilp
theorem aj0 (Γ:Env) (ds:List D) (h:uc.pre ds):bH Γ I0 I1 ds fun d=>d=uc.res ds:=by
 obtain⟨n,rfl,h0,h1⟩:=h
 have cq:uc.res [.int .u8 n]= .int .i64 (n % 70+1):=rfl
 rw[cq]
 have a1:IntKind.i64.wrap n=n:=by
  obtain⟨m,rfl⟩:∃m:Nat,n=m:=⟨n.toNat,by omega⟩
  exact wrap_small (by omega)
 have a6:n.tmod 70=n % 70:=Int.tmod_eq_emod_of_nonneg h0
 simp (maxSteps:=2000000) only[↓ak,aj,↓reduceIte,reduceCtorEq,Nat.reduceEqDiff,Nat.reduceLeDiff,Nat.reduceSub,Nat.reduceAdd,Int.reduceToNat,Nat.reducePow,Int.reducePow,Int.reduceLE,Int.reduceLT,IntKind.bits,I0,I1,a1,a6]
 ((repeat' apply And.intro)<;>first|assumption|with_reducible rfl|omega|(simp only[aG];omega)|exact⟨_,rfl⟩|exact⟨_,_,_,rfl⟩|exact⟨_,_,_,_,_,_,rfl⟩)
def Dl:bq where
 pre:=fun ds=>∃(K:Int) (Q:Nat),ds=[cl K Q]∧Q≤60∧aG K
 res:=fun ds=>match ds with
  |[.agg [.int _ K,.int _ Q]]=> .bool (decide ((a5 (an K Q.toNat):Int)≤2))
  |_=> .nilp
theorem ajL (Γ:Env) (m1:Γ.has 80 k6) (ds:List D) (h:Dl.pre ds):bH Γ UJ UK ds fun d=>d=Dl.res ds:=by
 obtain⟨K,Q,rfl,cn,bV⟩:=h
 have cq:Dl.res [cl K Q]= .bool (decide ((a5 (an K Q):Int)≤2)):=by simp only[Dl,cl,Int.toNat_natCast]
 rw[cq]
 have p1:=i80 cn bV
 have bP:=tW K Q
 simp (maxSteps:=2000000) only[↓ak,aj,↓reduceIte,reduceCtorEq,Nat.reduceEqDiff,Nat.reduceLeDiff,Nat.reduceSub,Nat.reduceAdd,Int.reduceToNat,Nat.reducePow,Int.reducePow,Int.reduceLE,Int.reduceLT,IntKind.bits,UJ,UK,cl,m1,p1,bP]
end RV.Dr
namespace RV.Dr
open Go RV RR
set_option linter.unusedSimpArgs false
set_option linter.unusedVariables false
set_option maxRecDepth 100000
set_option maxHeartbeats 8000000
theorem AX {b:Bool} {a n:Nat} {I:bD} (h:a<1152921504606846976) (aZ:a5 a≤14) (aH:n≤160) (fZ:m2 I (qE b a) n):fC b a n=I:=(abA h aZ aH).uniq fZ
theorem F7 (b:Bool) (m:Nat) (e:Int):bt (mk b m e)=aD (dn b m)*aJ e:=by
 have:=oH (E:=e) b m (Int.le_refl e)
 rw[kS (E:=e) (j9 (Int.le_refl _)),this,Int.sub_self];simp
theorem Mh {x:R} {V n z:Nat} (h1:aD V≤x*aJ 256) (h2:x*aJ 256≤aD V+aD 2) (aH:n≤256) (br:z*2^(256 - n)<V) (bw:V+2<(z+1)*2^(256 - n)):m2 ⟨mk false z (-n),mk false (z+1) (-n)⟩ x n:=by
 have es:aJ 256=aJ n*aJ (256 - n:Nat):=by rw[←j8];congr 1;omega
 rw[es]at h1 h2
 have p:=e4 (-((256 - n:Nat):Int))
 have q:=oz ((256 - n:Nat):Int)
 have pt:=e4 ((256 - n:Nat):Int)
 have bB:aD z*aJ (256 - n:Nat)<aD V:=by
  rw[←nh,←kF,pO];exact_mod_cast br
 have cu:aD V+aD 2<(aD z+1)*aJ (256 - n:Nat):=by
  have:aD V+aD 2=aD ((V+2:Nat):Int):=by rw[ln];rfl
  rw[this,←nh,←Ft,←ln,←kF,pO];exact_mod_cast bw
 have d1:aD z<x*aJ n:=by
  refine Std.not_le.1 fun k=> ?_
  have:=cb (show 0≤aD z - x*aJ n by grind) (show 0≤aJ (256 - n:Nat)by grind)
  grind
 have d2:x*aJ n<aD z+1:=by
  refine Std.not_le.1 fun k=> ?_
  have:=cb (show 0≤x*aJ n - (aD z+1)by grind) (show 0≤aJ (256 - n:Nat)by grind)
  grind
 have se:aD ((z+1:Nat):Int)=aD z+1:=by rw[ln,Ft]
 refine⟨⟨lA ..,lA ..⟩,j9 (Int.le_refl _),j9 (Int.le_refl _),z,(z+1:Nat),F7 ..,F7 ..,by grind,d2,by grind,by grind⟩
theorem Nl {x:R} {k:Int} {n:Nat} (h:x=aD k):m2 ⟨mk (decide (k<0)) k.natAbs 0,mk (decide (k<0)) k.natAbs 0⟩ x n:=by
 have e:bt (mk (decide (k<0)) k.natAbs 0)=aD k:=by
  rw[F7,Fp]
  have:dn (decide (k<0)) k.natAbs=k:=by
   unfold dn
   by_cases h:k<0
   ·rw[decide_eq_true h,if_pos rfl];omega
   ·rw[decide_eq_false h,if_neg (by decide)];omega
  rw[this];grind
 have a6:aD k=aD (k*2^n)*aJ (-n):=by
  have:=oz (n:Int)
  rw[jJ,g5,show aD k*aJ n*aJ (-n)=aD k*(aJ n*aJ (-n))by grind,this];grind
 have cU:x*aJ n=aD (k*2^n):=by rw[h,jJ,g5]
 have o:=uN
 refine⟨⟨lA ..,lA ..⟩,j9 (by omega),j9 (by omega),k*2^n,k*2^n,by rw[e];exact a6,by rw[e];exact a6,by rw[cU];grind,by rw[cU];grind,by rw[cU];grind,by rw[cU];grind⟩
theorem agl:an 1 3=1*2^(60 - 3):=by decide
theorem agm:an 1 4=1*2^(60 - 4):=by decide
theorem agn:an 3 2=3*2^(60 - 2):=by decide
theorem ago:an 1 2=1*2^(60 - 2):=by decide
theorem KR (a:Nat):qE false a=(pt a).cM:=rfl
theorem aj1 (a:Nat):qE true a=(pt a).dh:=rfl
theorem pow_one (z:bA):z.pow 1=z:=bA.one_mul z
theorem iv:fC false (an 1 3) (1:Nat)=⟨⟨false,1,-1⟩,⟨false,1,0⟩⟩:=by
 have e:qE false (an 1 3)=ao 0:=by
  rw[KR,agl,s3 (by omega),pow_one];rfl
 have h:=(Di 0 (by omega)).1
 have:=Mh (n:=1) (z:=1) h.1 h.2 (by omega) (by decide+kernel) (by decide+kernel)
 rw[←e]at this
 rw[AX (ig _ _) (by have:=pM 1 (Q:=3) (by omega);omega) (by omega) this]
 decide+kernel
theorem yh:fC true (an 3 2) (9:Nat)=⟨⟨true,1,0⟩,⟨true,1,0⟩⟩:=by
 have e:qE true (an 3 2)=aD (-1):=by
  rw[aj1,agn,s3 (by omega)]
  have:aD (-1)= -1:=by rw[jK,gi]
  rw[this]
  simp only[bA.pow,un,bA.I,bA.one,bA.mul]
  grind
 rw[AX (ig _ _) (by have:=pM 3 (Q:=2) (by omega);omega) (by omega) (Nl e)]
 decide+kernel
theorem aj2:fC false (an 1 2) (5:Nat)=⟨⟨false,0,0⟩,⟨false,0,0⟩⟩:=by
 have e:qE false (an 1 2)=aD 0:=by
  rw[KR,ago,s3 (by omega),pow_one];rfl
 rw[AX (ig _ _) (by have:=pM 1 (Q:=2) (by omega);omega) (by omega) (Nl e)]
 decide+kernel
theorem Ki:fC false (an 1 4) (8:Nat)=⟨⟨false,59,-6⟩,⟨false,237,-8⟩⟩:=by
 have e:qE false (an 1 4)=ao 1:=by
  rw[KR,agm,s3 (by omega),pow_one];rfl
 have h:=(Di 1 (by omega)).1
 have:=Mh (n:=8) (z:=236) h.1 h.2 (by omega) (by decide+kernel) (by decide+kernel)
 rw[←e]at this
 rw[AX (ig _ _) (by have:=pM 1 (Q:=4) (by omega);omega) (by omega) this]
 decide+kernel
def di (k:Nat) (cs:List ag) (s:St):Prop:=s.af k= .box k 0∧s.aw k=some ⟨false,false,.cells cs⟩
def ud:bq where
 pre:=fun ds=>ds=[]
 res:=fun _=> .bool true
theorem aj3 (Γ:Env) (zd:Γ.has 40 jx) (KS:Γ.has 42 m4) (y5:Γ.has 44 iQ) (ub:Γ.has 46 g8) (n1:Γ.has 76 dE) (vX:Γ.has 24 hN) (qi:Γ.has 19 gn) (uf:Γ.has 17 lX) (ds:List D) (h:ud.pre ds):bH Γ IW IX ds fun d=>d=ud.res ds:=by
 cases h
 have cq:∀ds,ud.res ds= .bool true:=fun _=>rfl
 have Za:ai 0=[]:=gf
 have zw:ai 3=[3]:=by decide+kernel
 have zx:ai 5=[5]:=by decide+kernel
 have DG:ai 7=[7]:=by decide+kernel
 have KT:ai 59=[59]:=by decide+kernel
 have Te:ai 236=[236]:=by decide+kernel
 have x9:ai 237=[237]:=by decide+kernel
 have v1:val [1]=1:=by decide+kernel
 have Dz:val [3]=3:=by decide+kernel
 have alc:val [5]=5:=by decide+kernel
 have agp:val [236]=236:=by decide+kernel
 have agq:val [237]=237:=by decide+kernel
 have hj:∀(K:Int) (Q n:Nat),Q≤14→n≤160→jx.pre [.agg [.int .i64 K,.int .i64 Q],.int .i64 n]:=fun K Q n cn aH=>⟨K,Q,n,rfl,by omega,by have:=pM K (Q:=Q) (by omega);omega,aH⟩
 have aj4:jx.pre [.agg [.int .i64 1,.int .i64 3],.int .i64 1]:=hj 1 3 1 (by omega) (by omega)
 have aj5:jx.res [.agg [.int .i64 1,.int .i64 3],.int .i64 1]= .agg [.bool false,.ints .i64 [1],.int .i64 (-1),.bool false,.ints .i64 [1],.int .i64 0]:=by
  show aQ (fC false (an 1 3) (1:Nat))=_
  rw[iv];unfold aQ a7;rw[c8]
 have ps:m4.pre [.agg [.int .i64 3,.int .i64 2],.int .i64 9]:=⟨3,2,9,rfl,by omega,by have:=pM 3 (Q:=2) (by omega);omega,by omega⟩
 have rs:m4.res [.agg [.int .i64 3,.int .i64 2],.int .i64 9]= .agg [.bool true,.ints .i64 [1],.int .i64 0,.bool true,.ints .i64 [1],.int .i64 0]:=by
  show aQ (fC true (an 3 2) (9:Nat))=_
  rw[yh];unfold aQ a7;rw[c8]
 have aj6:jx.pre [.agg [.int .i64 1,.int .i64 2],.int .i64 5]:=hj 1 2 5 (by omega) (by omega)
 have aj7:jx.res [.agg [.int .i64 1,.int .i64 2],.int .i64 5]= .agg [.bool false,.ints .i64 [],.int .i64 0,.bool false,.ints .i64 [],.int .i64 0]:=by
  show aQ (fC false (an 1 2) (5:Nat))=_
  rw[aj2];unfold aQ a7;rw[Za]
 have aj8:jx.pre [.agg [.int .i64 1,.int .i64 4],.int .i64 8]:=hj 1 4 8 (by omega) (by omega)
 have aj9:jx.res [.agg [.int .i64 1,.int .i64 4],.int .i64 8]= .agg [.bool false,.ints .i64 [59],.int .i64 (-6),.bool false,.ints .i64 [237],.int .i64 (-8)]:=by
  show aQ (fC false (an 1 4) (8:Nat))=_
  rw[Ki];unfold aQ a7;rw[KT,x9]
 have aka:g8.pre [.int .i64 1]:=⟨1,rfl,by omega,by omega⟩
 have akb:g8.res [.int .i64 1]= .agg [.bool false,.ints .i64 [1],.int .i64 0]:=by
  have:mk (decide ((1:Int)<0)) (Int.natAbs 1) 0=⟨false,1,0⟩:=by decide+kernel
  simp only[g8,this];unfold aR a7;rw[c8]
 have akc:g8.pre [.int .i64 (-1)]:=⟨-1,rfl,by omega,by omega⟩
 have akd:g8.res [.int .i64 (-1)]= .agg [.bool true,.ints .i64 [1],.int .i64 0]:=by
  have:mk (decide ((-1:Int)<0)) (Int.natAbs (-1)) 0=⟨true,1,0⟩:=by decide+kernel
  simp only[g8,this];unfold aR a7;rw[c8]
 have ake:g8.pre [.int .i64 (-7)]:=⟨-7,rfl,by omega,by omega⟩
 have akf:g8.res [.int .i64 (-7)]= .agg [.bool true,.ints .i64 [7],.int .i64 0]:=by
  have:mk (decide ((-7:Int)<0)) (Int.natAbs (-7)) 0=⟨true,7,0⟩:=by decide+kernel
  simp only[g8,this];unfold aR a7;rw[DG]
 have pp:gn.pre [.agg [.bool true,.ints .i64 [1],.int .i64 0]]:=⟨⟨true,1,0⟩,by unfold aR a7;rw[c8]⟩
 have ald:gn.res [.agg [.bool true,.ints .i64 [1],.int .i64 0]]= .agg [.bool true,.ints .i64 [1],.int .i64 0,.bool true,.ints .i64 [1],.int .i64 0]:=by
  have e:(.agg [.bool true,.ints .i64 [1],.int .i64 0]:D)=aR ⟨true,1,0⟩:=by unfold aR a7;rw[c8]
  have a6:dO (aR ⟨true,1,0⟩)=⟨true,1,0⟩:=b0 ⟨true,1,0⟩
  rw[e];simp only[gn,a6];unfold aQ pD a7;rw[c8]
 have sb:∀(b:Bool) (m:Nat) (e:Int),m % 2=1→bc m≤30→-100≤e→e≤100→cv ⟨b,m,e⟩:=fun b m e h1 h2 al aE=>⟨⟨fun h=>by simp only at h;omega,fun _=>h1⟩,fun _=>⟨by show (-50000:Int)≤e;omega,by show e+(bc m:Int)≤50000;omega⟩⟩
 have bW:=sb false 1 (-1) rfl (by decide+kernel) (by omega) (by omega)
 have cy:=sb false 1 0 rfl (by decide+kernel) (by omega) (by omega)
 have lb:=sb true 1 0 rfl (by decide+kernel) (by omega) (by omega)
 have zv:=sb false 59 (-6) rfl (by decide+kernel) (by omega) (by omega)
 have ale:=sb false 237 (-8) rfl (by decide+kernel) (by omega) (by omega)
 have alf:=sb true 3 (-1) rfl (by decide+kernel) (by omega) (by omega)
 have Zb:=sb true 7 0 rfl (by decide+kernel) (by omega) (by omega)
 have alg:=sb true 5 (-2) rfl (by decide+kernel) (by omega) (by omega)
 have aK:cv ⟨false,0,0⟩:=⟨⟨fun _=>⟨rfl,rfl⟩,fun h=>absurd rfl h⟩,fun h=>absurd rfl h⟩
 have sn:∀y:bD,hk y→lX.pre [aQ y,aQ y]∧lX.res [aQ y,aQ y]= .bool true:=fun y hy=>⟨⟨y,y,rfl,hy,hy⟩,by simp[lX]⟩
 obtain⟨ea,t1⟩:=sn ⟨⟨false,1,-1⟩,⟨false,1,0⟩⟩ ⟨bW,cy⟩
 obtain⟨ft,t2⟩:=sn ⟨⟨true,1,0⟩,⟨true,1,0⟩⟩ ⟨lb,lb⟩
 obtain⟨fY,t3⟩:=sn ⟨⟨false,0,0⟩,⟨false,0,0⟩⟩ ⟨aK,aK⟩
 obtain⟨la,t4⟩:=sn ⟨⟨false,59,-6⟩,⟨false,237,-8⟩⟩ ⟨zv,ale⟩
 unfold aQ a7 at ea t1 ft t2 fY t3 la t4
 simp only[c8,Za,KT,x9]at ea t1 ft t2 fY t3 la t4
 have Zc:∀y:a3,cv y→hN.pre [aR y,aR y]∧hN.res [aR y,aR y]= .bool true:=fun y hy=>⟨⟨y,y,rfl,hy,hy⟩,by simp[hN]⟩
 obtain⟨zg,t5⟩:=Zc ⟨true,3,-1⟩ alf
 obtain⟨zh,t6⟩:=Zc ⟨true,7,0⟩ Zb
 unfold aR a7 at zg t5 zh t6
 simp only[zw,DG]at zg t5 zh t6
 have gw:dE.pre [.bool false,.ints .i64 [236],.int .i64 (-8)]:=⟨false,236,-8,by unfold a7;rw[Te],by rw[Te];decide,by omega,by omega⟩
 have iS:dE.res [.bool false,.ints .i64 [236],.int .i64 (-8)]= .agg [.bool false,.ints .i64 [59],.int .i64 (-6)]:=by
  have:mk false 236 (-8)=⟨false,59,-6⟩:=by decide+kernel
  simp only[dE,agp,this];unfold aR a7;rw[KT]
 have hG:dE.pre [.bool false,.ints .i64 [237],.int .i64 (-8)]:=⟨false,237,-8,by unfold a7;rw[x9],by rw[x9];decide,by omega,by omega⟩
 have k9:dE.res [.bool false,.ints .i64 [237],.int .i64 (-8)]= .agg [.bool false,.ints .i64 [237],.int .i64 (-8)]:=by
  have:mk false 237 (-8)=⟨false,237,-8⟩:=by decide+kernel
  simp only[dE,agq,this];unfold aR a7;rw[x9]
 have oa:dE.pre [.bool true,.ints .i64 [5],.int .i64 (-2)]:=⟨true,5,-2,by unfold a7;rw[zx],by rw[zx];decide,by omega,by omega⟩
 have ur:dE.res [.bool true,.ints .i64 [5],.int .i64 (-2)]= .agg [.bool true,.ints .i64 [5],.int .i64 (-2)]:=by
  have:mk true 5 (-2)=⟨true,5,-2⟩:=by decide+kernel
  simp only[dE,alc,this];unfold aR a7;rw[zx]
 have pd:dE.pre [.bool true,.ints .i64 [3],.int .i64 (-1)]:=⟨true,3,-1,by unfold a7;rw[zw],by rw[zw];decide,by omega,by omega⟩
 have qx:dE.res [.bool true,.ints .i64 [3],.int .i64 (-1)]= .agg [.bool true,.ints .i64 [3],.int .i64 (-1)]:=by
  have:mk true 3 (-1)=⟨true,3,-1⟩:=by decide+kernel
  simp only[dE,Dz,this];unfold aR a7;rw[zw]
 have f1:iQ.pre [.agg [.bool true,.ints .i64 [5],.int .i64 (-2)],.int .i64 1]:=⟨⟨true,5,-2⟩,1,by unfold aR a7;rw[zx],alg,by omega,by omega⟩
 have cW:iQ.res [.agg [.bool true,.ints .i64 [5],.int .i64 (-2)],.int .i64 1]= .agg [.bool true,.ints .i64 [3],.int .i64 (-1)]:=by
  have e:(.agg [.bool true,.ints .i64 [5],.int .i64 (-2)]:D)=aR ⟨true,5,-2⟩:=by unfold aR a7;rw[zx]
  have a6:dO (aR ⟨true,5,-2⟩)=⟨true,5,-2⟩:=b0 ⟨true,5,-2⟩
  have cU:fN ⟨true,5,-2⟩ 1=⟨true,3,-1⟩:=by decide+kernel
  rw[e];simp only[iQ,a6,cU];unfold aR a7;rw[zw]
 have f2:iQ.pre [.agg [.bool true,.ints .i64 [7],.int .i64 0],.int .i64 1]:=⟨⟨true,7,0⟩,1,by unfold aR a7;rw[DG],Zb,by omega,by omega⟩
 have dy:iQ.res [.agg [.bool true,.ints .i64 [7],.int .i64 0],.int .i64 1]= .agg [.bool true,.ints .i64 [7],.int .i64 0]:=by
  have e:(.agg [.bool true,.ints .i64 [7],.int .i64 0]:D)=aR ⟨true,7,0⟩:=by unfold aR a7;rw[DG]
  have a6:dO (aR ⟨true,7,0⟩)=⟨true,7,0⟩:=b0 ⟨true,7,0⟩
  have cU:fN ⟨true,7,0⟩ 1=⟨true,7,0⟩:=by decide+kernel
  rw[e];simp only[iQ,a6,cU]
 rw[cq]
 rw[fP]
 unfold IW IX
 refine bX (fun s=>True) ?_ ?_
 ·simp (maxSteps:=2000000) only[↓ak,aj,↓reduceIte,reduceCtorEq,Nat.reduceEqDiff,Nat.reduceLeDiff,Nat.reduceSub,Nat.reduceAdd,Int.reduceToNat,Nat.reducePow,Int.reducePow,Int.reduceLE,Int.reduceLT,IntKind.bits]
 rintro s -
 refine bX (fun s=>di 1 [.d (.bool false),.d (.ints .i64 [1]),.d (.int .i64 (-1)),.d (.bool false),.d (.ints .i64 [1]),.d (.int .i64 0)] s) ?_ ?_
 ·simp (maxSteps:=2000000) only[↓ak,aj,↓reduceIte,reduceCtorEq,Nat.reduceEqDiff,Nat.reduceLeDiff,Nat.reduceSub,Nat.reduceAdd,Int.reduceToNat,Nat.reducePow,Int.reducePow,Int.reduceLE,Int.reduceLT,IntKind.bits,zd,aj4,aj5,di]
 rintro s ⟨h1,cf⟩
 refine bX (fun s=>di 1 [.d (.bool false),.d (.ints .i64 [1]),.d (.int .i64 (-1)),.d (.bool false),.d (.ints .i64 [1]),.d (.int .i64 0)] s∧di 2 [.d (.bool true),.d (.ints .i64 [1]),.d (.int .i64 0),.d (.bool true),.d (.ints .i64 [1]),.d (.int .i64 0)] s) ?_ ?_
 ·simp (maxSteps:=2000000) only[↓ak,aj,↓reduceIte,reduceCtorEq,Nat.reduceEqDiff,Nat.reduceLeDiff,Nat.reduceSub,Nat.reduceAdd,Int.reduceToNat,Nat.reducePow,Int.reducePow,Int.reduceLE,Int.reduceLT,IntKind.bits,h1,cf,KS,ps,rs,di]
 clear h1 cf
 rintro s ⟨⟨h1,cf⟩,h2,aY⟩
 refine bX (fun s=>di 1 [.d (.bool false),.d (.ints .i64 [1]),.d (.int .i64 (-1)),.d (.bool false),.d (.ints .i64 [1]),.d (.int .i64 0)] s∧di 2 [.d (.bool true),.d (.ints .i64 [1]),.d (.int .i64 0),.d (.bool true),.d (.ints .i64 [1]),.d (.int .i64 0)] s∧di 3 [.d (.bool false),.d (.ints .i64 []),.d (.int .i64 0),.d (.bool false),.d (.ints .i64 []),.d (.int .i64 0)] s) ?_ ?_
 ·simp (maxSteps:=2000000) only[↓ak,aj,↓reduceIte,reduceCtorEq,Nat.reduceEqDiff,Nat.reduceLeDiff,Nat.reduceSub,Nat.reduceAdd,Int.reduceToNat,Nat.reducePow,Int.reducePow,Int.reduceLE,Int.reduceLT,IntKind.bits,h1,cf,h2,aY,zd,aj6,aj7,di]
 clear h1 cf h2 aY
 rintro s ⟨⟨h1,cf⟩,⟨h2,aY⟩,al,aW⟩
 refine bX (fun s=>di 1 [.d (.bool false),.d (.ints .i64 [1]),.d (.int .i64 (-1)),.d (.bool false),.d (.ints .i64 [1]),.d (.int .i64 0)] s∧di 2 [.d (.bool true),.d (.ints .i64 [1]),.d (.int .i64 0),.d (.bool true),.d (.ints .i64 [1]),.d (.int .i64 0)] s∧di 3 [.d (.bool false),.d (.ints .i64 []),.d (.int .i64 0),.d (.bool false),.d (.ints .i64 []),.d (.int .i64 0)] s∧di 4 [.d (.bool false),.d (.ints .i64 [59]),.d (.int .i64 (-6)),.d (.bool false),.d (.ints .i64 [237]),.d (.int .i64 (-8))] s) ?_ ?_
 ·simp (maxSteps:=2000000) only[↓ak,aj,↓reduceIte,reduceCtorEq,Nat.reduceEqDiff,Nat.reduceLeDiff,Nat.reduceSub,Nat.reduceAdd,Int.reduceToNat,Nat.reducePow,Int.reducePow,Int.reduceLE,Int.reduceLT,IntKind.bits,h1,cf,h2,aY,al,aW,zd,aj8,aj9,di]
 clear h1 cf h2 aY al aW
 rintro s ⟨⟨h1,cf⟩,⟨h2,aY⟩,⟨al,aW⟩,aE,aU⟩
 rw[AZ,Ay,Ek (by rfl)]
 refine uM 7 (fun s=>s.af 19= .d (.bool true)∧di 1 [.d (.bool false),.d (.ints .i64 [1]),.d (.int .i64 (-1)),.d (.bool false),.d (.ints .i64 [1]),.d (.int .i64 0)] s∧di 2 [.d (.bool true),.d (.ints .i64 [1]),.d (.int .i64 0),.d (.bool true),.d (.ints .i64 [1]),.d (.int .i64 0)] s∧di 3 [.d (.bool false),.d (.ints .i64 []),.d (.int .i64 0),.d (.bool false),.d (.ints .i64 []),.d (.int .i64 0)] s∧di 4 [.d (.bool false),.d (.ints .i64 [59]),.d (.int .i64 (-6)),.d (.bool false),.d (.ints .i64 [237]),.d (.int .i64 (-8))] s) ?_ ?_
 ·simp only[List.take_succ_cons,List.take_zero]
  simp (maxSteps:=2000000) only[↓ak,aj,↓reduceIte,reduceCtorEq,Nat.reduceEqDiff,Nat.reduceLeDiff,Nat.reduceSub,Nat.reduceAdd,Int.reduceToNat,Nat.reducePow,Int.reducePow,Int.reduceLE,Int.reduceLT,IntKind.bits,h1,cf,h2,aY,al,aW,aE,aU,di,ub,aka,akb,uf,ea,t1]
  first|done|((repeat' apply And.intro)<;>first|assumption|with_reducible rfl|omega|(simp only[aG];omega)|exact⟨_,rfl⟩|exact⟨_,_,_,rfl⟩|exact⟨_,_,_,_,_,_,rfl⟩)
 clear h1 cf h2 aY al aW aE aU
 rintro s ⟨b5,⟨h1,cf⟩,⟨h2,aY⟩,⟨al,aW⟩,aE,aU⟩
 simp only[List.drop_succ_cons,List.drop_zero]
 refine uM 6 (fun s=>s.af 25= .d (.bool true)∧di 1 [.d (.bool false),.d (.ints .i64 [1]),.d (.int .i64 (-1)),.d (.bool false),.d (.ints .i64 [1]),.d (.int .i64 0)] s∧di 2 [.d (.bool true),.d (.ints .i64 [1]),.d (.int .i64 0),.d (.bool true),.d (.ints .i64 [1]),.d (.int .i64 0)] s∧di 3 [.d (.bool false),.d (.ints .i64 []),.d (.int .i64 0),.d (.bool false),.d (.ints .i64 []),.d (.int .i64 0)] s∧di 4 [.d (.bool false),.d (.ints .i64 [59]),.d (.int .i64 (-6)),.d (.bool false),.d (.ints .i64 [237]),.d (.int .i64 (-8))] s) ?_ ?_
 ·simp only[List.take_succ_cons,List.take_zero]
  simp (maxSteps:=2000000) only[↓ak,aj,↓reduceIte,reduceCtorEq,Nat.reduceEqDiff,Nat.reduceLeDiff,Nat.reduceSub,Nat.reduceAdd,Int.reduceToNat,Nat.reducePow,Int.reducePow,Int.reduceLE,Int.reduceLT,IntKind.bits,h1,cf,h2,aY,al,aW,aE,aU,di,b5,ub,akc,akd,qi,pp,ald,uf,ft,t2]
  first|done|((repeat' apply And.intro)<;>first|assumption|with_reducible rfl|omega|(simp only[aG];omega)|exact⟨_,rfl⟩|exact⟨_,_,_,rfl⟩|exact⟨_,_,_,_,_,_,rfl⟩)
 clear h1 cf h2 aY al aW aE aU
 rintro s ⟨b5,⟨h1,cf⟩,⟨h2,aY⟩,⟨al,aW⟩,aE,aU⟩
 simp only[List.drop_succ_cons,List.drop_zero]
 refine uM 5 (fun s=>s.af 30= .d (.bool true)∧di 1 [.d (.bool false),.d (.ints .i64 [1]),.d (.int .i64 (-1)),.d (.bool false),.d (.ints .i64 [1]),.d (.int .i64 0)] s∧di 2 [.d (.bool true),.d (.ints .i64 [1]),.d (.int .i64 0),.d (.bool true),.d (.ints .i64 [1]),.d (.int .i64 0)] s∧di 3 [.d (.bool false),.d (.ints .i64 []),.d (.int .i64 0),.d (.bool false),.d (.ints .i64 []),.d (.int .i64 0)] s∧di 4 [.d (.bool false),.d (.ints .i64 [59]),.d (.int .i64 (-6)),.d (.bool false),.d (.ints .i64 [237]),.d (.int .i64 (-8))] s) ?_ ?_
 ·simp only[List.take_succ_cons,List.take_zero]
  simp (maxSteps:=2000000) only[↓ak,aj,↓reduceIte,reduceCtorEq,Nat.reduceEqDiff,Nat.reduceLeDiff,Nat.reduceSub,Nat.reduceAdd,Int.reduceToNat,Nat.reducePow,Int.reducePow,Int.reduceLE,Int.reduceLT,IntKind.bits,h1,cf,h2,aY,al,aW,aE,aU,di,b5,uf,fY,t3]
  first|done|((repeat' apply And.intro)<;>first|assumption|with_reducible rfl|omega|(simp only[aG];omega)|exact⟨_,rfl⟩|exact⟨_,_,_,rfl⟩|exact⟨_,_,_,_,_,_,rfl⟩)
 clear h1 cf h2 aY al aW aE aU
 rintro s ⟨b5,⟨h1,cf⟩,⟨h2,aY⟩,⟨al,aW⟩,aE,aU⟩
 simp only[List.drop_succ_cons,List.drop_zero]
 refine uM 9 (fun s=>s.af 39= .d (.bool true)∧di 1 [.d (.bool false),.d (.ints .i64 [1]),.d (.int .i64 (-1)),.d (.bool false),.d (.ints .i64 [1]),.d (.int .i64 0)] s∧di 2 [.d (.bool true),.d (.ints .i64 [1]),.d (.int .i64 0),.d (.bool true),.d (.ints .i64 [1]),.d (.int .i64 0)] s∧di 3 [.d (.bool false),.d (.ints .i64 []),.d (.int .i64 0),.d (.bool false),.d (.ints .i64 []),.d (.int .i64 0)] s∧di 4 [.d (.bool false),.d (.ints .i64 [59]),.d (.int .i64 (-6)),.d (.bool false),.d (.ints .i64 [237]),.d (.int .i64 (-8))] s) ?_ ?_
 ·simp only[List.take_succ_cons,List.take_zero]
  simp (maxSteps:=2000000) only[↓ak,aj,↓reduceIte,reduceCtorEq,Nat.reduceEqDiff,Nat.reduceLeDiff,Nat.reduceSub,Nat.reduceAdd,Int.reduceToNat,Nat.reducePow,Int.reducePow,Int.reduceLE,Int.reduceLT,IntKind.bits,h1,cf,h2,aY,al,aW,aE,aU,di,b5,n1,gw,iS,hG,k9,uf,la,t4]
  first|done|((repeat' apply And.intro)<;>first|assumption|with_reducible rfl|omega|(simp only[aG];omega)|exact⟨_,rfl⟩|exact⟨_,_,_,rfl⟩|exact⟨_,_,_,_,_,_,rfl⟩)
 clear h1 cf h2 aY al aW aE aU
 rintro s ⟨b5,⟨h1,cf⟩,⟨h2,aY⟩,⟨al,aW⟩,aE,aU⟩
 simp only[List.drop_succ_cons,List.drop_zero]
 simp (maxSteps:=2000000) only[↓ak,aj,↓reduceIte,reduceCtorEq,Nat.reduceEqDiff,Nat.reduceLeDiff,Nat.reduceSub,Nat.reduceAdd,Int.reduceToNat,Nat.reducePow,Int.reducePow,Int.reduceLE,Int.reduceLT,IntKind.bits,b5,n1,oa,ur,pd,qx,y5,f1,cW,f2,dy,ub,ake,akf,vX,zg,t5,zh,t6]
 first|done|((repeat' apply And.intro)<;>first|assumption|with_reducible rfl|omega|(simp only[aG];omega)|exact⟨_,rfl⟩|exact⟨_,_,_,rfl⟩|exact⟨_,_,_,_,_,_,rfl⟩)
end RV.Dr
