/- Lemmas for a claim: an abstract machine for the translated code, proved sound, and contracts of functions. By an AI agent. -/
import Derived.Test.YtfnabehbkmlofaaGreatDoorRe
import Derived.Test.YtfnabehbkmlofaaGreatDoorRg
import Derived.Test.YtfnabehbkmlofaaGreatDoorRf
import Derived.Test.YtfnabehbkmlofaaGreatDoorRd
import Ieee.Arith
set_option linter.all false
namespace RV.Dr
open Go RV
set_option linter.unusedSimpArgs false
set_option linter.unusedVariables false
set_option maxRecDepth 100000
set_option maxHeartbeats 4000000
theorem Xi:∀(f x:Nat),x<2^f→Lib.bitLenAux f x=a1 x
 |0,x,h=>by
  have:x=0:=by simpa using h
  subst this;rfl
 |f+1,x,h=>by
  by_cases h0:x=0
  ·subst h0;simp[Lib.bitLenAux,pC]
  ·simp only[Lib.bitLenAux,if_neg h0]
   rw[Xi f (x / 2) (by rw[Nat.pow_succ]at h;omega),YB h0,Nat.add_comm]
theorem amn {n:Nat} (h:n<2^64):Lib.bitLen n=a1 n:=Xi 64 n h
def yM:br where
 pre:=fun ds=>∃x:Int,ds=[.int .u64 x]∧0≤x∧x<18446744073709551616
 res:=fun ds=>match ds with
  |[.int _ x]=> .int .i64 (a1 x.toNat)
  |_=> .nilp
theorem E2 (B:Mem):l8 Go.Proofs.Tryz.prog B 188 yM:=by
 refine⟨⟨Go.Proofs.Tryz.f188,by kernel_rfl,by decide,by decide⟩,?_⟩
 rintro ds ⟨x,rfl,h0,h1⟩ w rd vs _ _ ar
 simp only[bP,bj]at ar
 obtain⟨v,us,aB,rfl,rfl⟩:=ar
 have BQ:vs= #[.int .u64 x]:=by rw[←Array.toList_inj];exact aB
 subst BQ
 refine(Go.Proofs.Tryz.QW x w h0 (by omega)).mono ?_
 rintro e w' ⟨rfl,rfl⟩
 refine⟨_,rfl,RowKit.Below.refl _ _,fun _=> ?_,fun h=>by cases h⟩
 simp only[bj,yM]
 rw[amn (by omega)]
theorem Gf (Γ:Env) (f188:Γ.fn 188=some yM) (atx:Γ.mt 188=none) (ds:List D) (h:vo.pre ds):bK Γ ac8 ac9 ds fun d=>d=vo.res ds:=by
 obtain⟨x,rfl,h0,h1⟩:=h
 simp (maxSteps:=9^9) only[↓al,ak,simprocAttr,ac8,ac9,vo,f188,atx,yM]
 exact⟨x,rfl,h0,h1⟩
def Lh (p:dL):List ag:=[.d (.bool p.c.lo.neg),.d (.ints .i64 (au p.c.lo.m)),.d (.int .i64 p.c.lo.e),.d (.bool p.c.hi.neg),.d (.ints .i64 (au p.c.hi.m)),.d (.int .i64 p.c.hi.e),.d (.bool p.s.lo.neg),.d (.ints .i64 (au p.s.lo.m)),.d (.int .i64 p.s.lo.e),.d (.bool p.s.hi.neg),.d (.ints .i64 (au p.s.hi.m)),.d (.int .i64 p.s.hi.e)]
def zm (p:dL) (s:St):Prop:=s.af 4= .box 4 0∧∃e,s.aA 4=some ⟨false,e,.cells [.d (.bool p.c.lo.neg),.d (.ints .i64 (au p.c.lo.m)),.d (.int .i64 p.c.lo.e),.d (.bool p.c.hi.neg),.d (.ints .i64 (au p.c.hi.m)),.d (.int .i64 p.c.hi.e),.d (.bool p.s.lo.neg),.d (.ints .i64 (au p.s.lo.m)),.d (.int .i64 p.s.lo.e),.d (.bool p.s.hi.neg),.d (.ints .i64 (au p.s.hi.m)),.d (.int .i64 p.s.hi.e)]⟩
theorem Gg (Γ:Env) (OL:Γ.has 207 qe) (aez:Γ.has 212 rj) (VK:Γ.has 36 lF) (Hl:Γ.has 32 jB) (ds:List D) (h:C9.pre ds) (M L:Nat):zO Γ (C9.seq ds) M L acf ds:=by
 obtain⟨w,rfl,gp,gD⟩:=h
 have eO:∀k,C9.seq [.ptr [.int .i64 w]] k=some [en (aB w k)]:=fun k=>rfl
 generalize C9.seq [.ptr [.int .i64 w]]=E at eO⊢
 have ov:(rO L [.ptr [.int .i64 w]]).af 0= .dv L:=rfl
 have s1:(rO L [.ptr [.int .i64 w]]).af 1= .d (.ptr [.int .i64 w]):=rfl
 unfold zO acf
 generalize rO L [.ptr [.int .i64 w]]=s at ov s1⊢
 obtain⟨o,bz⟩:∃o,o=i1:=⟨_,rfl⟩
 have tb:o.win (-(2*w+16)) 8:=bz▸Gc (by omega) (by omega)
 have p1:qe.pre []:=rfl
 have bA:qe.res []=a2 o:=by rw[bz];rfl
 unfold a2 aZ at bA
 have key:∀(x:bQ),x.win (-(2*w+16)) 9→rj.pre [.agg [.bool x.lo.neg,.ints .i64 (au x.lo.m),.int .i64 x.lo.e,.bool x.hi.neg,.ints .i64 (au x.hi.m),.int .i64 x.hi.e],.ptr [.int .i64 w]]∧
  rj.res [.agg [.bool x.lo.neg,.ints .i64 (au x.lo.m),.int .i64 x.lo.e,.bool x.hi.neg,.ints .i64 (au x.hi.m),.int .i64 x.hi.e],.ptr [.int .i64 w]]=a2 (g0 x w):=fun x aj=>
  ⟨⟨x,w,rfl,gJ aj (by omega) (by omega),gp,by omega⟩,by simp only[rj,dY]⟩
 refine sa (fun s=>s.af 0= .dv L∧s.af 3= .d (.fn 212 [] [.ptr [.int .i64 w]])) rfl ?_ ?_
 ·simp (maxSteps:=9^9) only[↓al,ak,simprocAttr,ov,s1]
 clear ov s1
 rintro s ⟨h0,aq⟩
 refine sa (fun s=>s.af 0= .dv L∧s.af 3= .d (.fn 212 [] [.ptr [.int .i64 w]])∧zm (aB w 0) s) rfl ?_ ?_
 ·obtain⟨cq,bX⟩:=key o (gJ tb (by omega) (by omega))
  have b8:aB w 0=⟨g0 o w,g0 o w⟩:=by rw[bz];rfl
  rw[b8]
  unfold a2 aZ at bX
  generalize g0 o w=z at bX⊢
  simp (maxSteps:=9^9) only[↓al,ak,simprocAttr,h0,aq,OL,p1,bA,aez,cq,bX,zm,EN,Er]
  first|done|((repeat' apply And.intro)<;>first|assumption|with_reducible rfl|omega|(simp only[aI];omega)|exact⟨_,rfl⟩|exact⟨_,_,_,rfl⟩|exact⟨_,_,_,_,_,_,rfl⟩)
 clear h0 aq
 rintro s ⟨h0,aq,aK⟩
 refine Cx ?_
 refine Mv (fun z s=>∃k:Nat,z=⟨k,true⟩∧s.af 0= .dv L∧s.af 3= .d (.fn 212 [] [.ptr [.int .i64 w]])∧zm (aB w k) s) (fun z _=>M - z.k) ⟨0,rfl,h0,aq,aK⟩ ?_
 clear h0 aq aK
 rintro z s ⟨k,rfl,h0,aq,aK⟩
 refine zC (fun z s=>z=⟨k+1,true⟩∧k+1<M∧s.af 0= .dv L∧s.af 3= .d (.fn 212 [] [.ptr [.int .i64 w]])∧zm (aB w k) s) ?_ ?_
 ·refine zC (fun z s=>(z=⟨k+1,true⟩∧k+1<M∧s.af 15= .d (.bool true)∧s.af 0= .dv L∧s.af 3= .d (.fn 212 [] [.ptr [.int .i64 w]])∧zm (aB w k) s)∨(z=⟨k,false⟩∧s.af 15= .d (.bool false))) ?_ ?_
  rotate_left
  ·clear h0 aq aK
   rintro z s (⟨rfl,cp,jf,h0,aq,aK⟩|⟨rfl,jf⟩)
   ·refine k3 _ rfl ?_
    simp (maxSteps:=9^9) only[↓al,ak,simprocAttr,jf]
    exact⟨cp,h0,aq,aK⟩
   ·refine k3 _ rfl ?_
    simp (maxSteps:=9^9) only[↓al,ak,simprocAttr,jf]
  show hL Γ E M L _ _ _ _
  have B7:=eO k
  generalize aB w k=p at B7 aK⊢
  refine Ra 2 (fun s=>s.af 13= .dv L∧s.af 14= .agg (Lh p)∧s.af 0= .dv L∧s.af 3= .d (.fn 212 [] [.ptr [.int .i64 w]])∧zm p s) rfl ?_ ?_
  ·simp only[List.take_succ_cons,List.take_zero]
   obtain⟨aK,cN,a9⟩:=aK
   simp (maxSteps:=9^9) only[↓al,ak,simprocAttr,h0,aq,aK,a9,EN,Er,zm,Lh]
   first|done|((repeat' apply And.intro)<;>first|assumption|with_reducible rfl|omega|(simp only[aI];omega)|exact⟨_,rfl⟩|exact⟨_,_,_,rfl⟩|exact⟨_,_,_,_,_,_,rfl⟩)
  clear h0 aq aK
  rintro s ⟨dn,eH,h0,aq,aK⟩
  show hL Γ E M L _ [⟨some 15,.hJ (.t 13) [.t 14],none⟩] _ _
  have Li:cr s [.t 14]=[.agg (Lh p)]:=by simp only[cr,List.map_cons,List.map_nil,St.aU,eH]
  refine QI (ds:=[en p]) dn (by rw[Li];rfl) (by rw[Li];rfl) rfl B7 (fun cp=> ?_) ?_
  ·have iR:=Rb h0
   have c2:=yf aq
   obtain⟨aK,cN,a9⟩:=aK
   have hF:=YA aK a9 rfl
   have qz:=Zh a9 rfl
   have cp:k+1<M:=cp
   generalize s.still=ef at iR c2 hF qz⊢
   refine zv rfl ?_
   simp (maxSteps:=9^9) only[↓al,ak,simprocAttr,iR,c2,hF,qz,zm,cp]
   first|done|(exact .inl ⟨_,rfl⟩)|(simp;done)
  ·refine zv rfl ?_
   simp (maxSteps:=9^9) only[↓al,ak,simprocAttr]
   first|done|(simp;done)
 ·clear h0 aq aK
  rintro z s ⟨rfl,cp,h0,aq,aK,cN,a9⟩
  refine k3 _ rfl (kb _ (fun e s aE=> ?_) (?_:cb Γ _ (fun e s=>match e with| .normal=>s.af 0= .dv L∧s.af 3= .d (.fn 212 [] [.ptr [.int .i64 w]])∧zm (aB w (k+1)) s|_=>False) s))
  ·cases e with
   |normal=>exact⟨⟨k+1,rfl,aE.1,aE.2.1,aE.2.2⟩,by show M - (k+1)<M - k;omega⟩
   |exit j=>exact aE.elim
   |ret=>exact aE.elim
  have ad:=(BF gp k).1
  have cj:=tA tb ad
  have ej:=tA tb (sb ad)
  obtain⟨cq,bX⟩:=key (ev o (aB w k).c) (gJ cj (by omega) (by omega))
  obtain⟨fK,eJ⟩:=key (ev o (dG (aB w k).c)) (gJ ej (by omega) (by omega))
  have ek:aB w (k+1)=⟨g0 (ev o (aB w k).c) w,g0 (ev o (dG (aB w k).c)) w⟩:=by rw[bz];rfl
  rw[ek]
  generalize aB w k=p at*
  have pa:lF.pre [a2 o,a2 p.c]:=⟨o,p.c,rfl,gJ tb (by omega) (by omega),gJ ad (by omega) (by omega)⟩
  have ox:lF.res [a2 o,a2 p.c]=a2 (ev o p.c):=by simp only[lF,a2,aZ,dY]
  have jJ:jB.pre [a2 p.c]:=⟨p.c,rfl,gJ ad (by omega) (by omega)⟩
  have hT:jB.res [a2 p.c]=a2 (dG p.c):=by simp only[jB,a2,aZ,dY]
  have px:lF.pre [a2 o,a2 (dG p.c)]:=⟨o,dG p.c,rfl,gJ tb (by omega) (by omega),gJ (sb ad) (by omega) (by omega)⟩
  have jL:lF.res [a2 o,a2 (dG p.c)]=a2 (ev o (dG p.c)):=by simp only[lF,a2,aZ,dY]
  clear eO key cj ej ek bz
  generalize ev o p.c=u at*
  generalize dG p.c=v at*
  generalize ev o v=t at*
  generalize g0 u w=x at*
  generalize g0 t w=y at*
  unfold a2 aZ at pa ox jJ hT px jL bX eJ
  simp (maxSteps:=9^9) only[↓al,ak,simprocAttr,h0,aq,aK,a9,OL,p1,bA,aez,cq,bX,fK,eJ,VK,pa,ox,px,jL,Hl,jJ,hT,zm]
  first|done|((repeat' apply And.intro)<;>first|assumption|with_reducible rfl|omega|(simp only[aI];omega)|exact⟨_,rfl⟩|exact⟨_,_,_,rfl⟩|exact⟨_,_,_,_,_,_,rfl⟩)
theorem aaQ (K k:Nat):iH .i64 ((K:Int).fdiv (2^k)) 1=((K / 2^k % 2:Nat):Int):=by
 rw[Rz,show (2:Int)^k=((2^k:Nat):Int)from (Int.natCast_pow 2 k).symm,Int.fdiv_eq_ediv_of_nonneg _ (Int.natCast_nonneg _),←Int.natCast_ediv]
 omega
theorem Zw (K Q w:Int) (k q:Nat) (p:dL):rT K Q w (k+1) q p=rT K Q w k (q+1) (if (K.toNat / 2^(Q.toNat - q)) % 2=1 then tF p (aB w (q - 3)) w else p):=rfl
def abq:Nat→Option k0:=fun f=>if f=211 then some C9 else none
def Ax (K Q q w:Int) (p:dL) (s:St):Prop:=s.af 2= .box 2 0∧s.aA 2=some ⟨false,false,.cells [.d (.int .i64 K),.d (.int .i64 Q)]⟩∧s.af 3= .box 3 0∧s.aA 3=some ⟨false,false,.cells [.d (.int .i64 w)]⟩∧ig s∧h8 5 p s∧s.af 6= .box 6 0∧s.aA 6=some ⟨false,false,.cells [.d (.int .i64 q)]⟩
theorem Gh (Γ:Env) (OL:Γ.has 207 qe) (aty:Γ.has 208 tZ) (atz:Γ.has 209 ri) (ds:List D) (h:tY.pre ds):zN Γ abq acI acJ ds fun d=>d=tY.res ds:=by
 obtain⟨a,w,rfl,a6,cw,gp,gD⟩:=h
 have bO:tY.res [jl a,.int .i64 w]=en (rest (b5 a) (a0 a) w):=rfl
 rw[bO]
 have D0:jl a=cd (b5 a) (a0 a):=rfl
 rw[D0]
 have b9:=NZ (a:=a) (by omega)
 generalize b5 a=K at*
 generalize a0 a=Q at*
 clear D0 bO
 unfold zN acI
 refine qU (fun s=>s.af 2= .box 2 0∧s.aA 2=some ⟨false,false,.cells [.d (.int .i64 K),.d (.int .i64 Q)]⟩∧s.af 3= .box 3 0∧s.aA 3=some ⟨false,false,.cells [.d (.int .i64 w)]⟩∧ig s) ?_ ?_
 ·show cb Γ _ _ _
  simp (maxSteps:=9^9) only[↓al,ak,simprocAttr,cd,ig]
 rintro s ⟨h2,aW,aq,a5,aK,a9⟩
 have p1:qe.pre []:=rfl
 obtain⟨o,bz⟩:∃o,o=i1:=⟨_,rfl⟩
 have bA:qe.res []=a2 o:=by rw[bz];rfl
 unfold a2 aZ at bA
 refine qU (fun s=>s.af 2= .box 2 0∧s.aA 2=some ⟨false,false,.cells [.d (.int .i64 K),.d (.int .i64 Q)]⟩∧s.af 3= .box 3 0∧s.aA 3=some ⟨false,false,.cells [.d (.int .i64 w)]⟩∧ig s∧h8 5 p0 s) ?_ ?_
 ·show cb Γ _ _ _
  have b8:p0=⟨o,⟨⟨false,0,0⟩,⟨false,0,0⟩⟩⟩:=by rw[bz];rfl
  rw[b8]
  simp (maxSteps:=9^9) only[↓al,ak,simprocAttr,h2,aW,aq,a5,aK,a9,ig,h8,OL,p1,bA,hv]
 clear h2 aW aq a5 aK a9
 rintro s ⟨h2,aW,aq,a5,⟨aK,a9⟩,aG,bq⟩
 refine qU (Ax K Q 3 w p0) ?_ ?_
 ·show cb Γ _ _ _
  simp (maxSteps:=9^9) only[↓al,ak,simprocAttr,h2,aW,aq,a5,aK,a9,aG,bq,ig,h8,Ax]
 clear h2 aW aq a5 aK a9 aG bq p1 bA bz
 rintro s ⟨h2,aW,aq,a5,⟨aK,a9⟩,⟨aG,bq⟩,aM,aY⟩
 obtain⟨R,eC⟩:∃R,R=rest K Q w:=⟨_,rfl⟩
 obtain⟨n,aJ⟩:∃n,n=((Q:Int) - 2).toNat:=⟨_,rfl⟩
 have DJ:R=rT K Q w n 3 p0:=by rw[eC,aJ];rfl
 rw[←eC]
 refine qU (fun s=>ig s∧h8 5 R s) ?_ ?_
 ·refine qU (fun s=>s.af 11= .d (.fn 211 [] [.ptr [.int .i64 w]])∧Ax K Q 3 w p0 s) ?_ ?_
  ·show cb Γ _ _ _
   have fV:tZ.pre [.int .i64 w]:=⟨w,rfl⟩
   have rc:tZ.res [.int .i64 w]= .fn 211 [] [.ptr [.int .i64 w]]:=rfl
   simp (maxSteps:=9^9) only[↓al,ak,simprocAttr,h2,aW,aq,a5,aK,a9,aG,bq,aM,aY,ig,h8,Ax,aty,fV,rc]
  clear h2 aW aq a5 aK a9 aG bq aM aY
  rintro s ⟨cv,h2,aW,aq,a5,⟨aK,a9⟩,⟨aG,bq⟩,aM,aY⟩
  have jG:abq 211=some C9:=rfl
  have J0:∀k,C9.seq [.ptr [.int .i64 w]] k=some [en (aB w k)]:=fun k=>rfl
  simp only[iM,St.aU,cv,jG]
  refine⟨⟨w,rfl,gp,gD⟩,fun k s=>∃p:dL,k≤n∧rT K Q w (n - k) (k+3) p=R∧p.win (-((k:Int)*(2*w+16))) (1+10*k)∧Ax K Q (k+3:Nat) w p s,20,by omega,⟨p0,by omega,DJ.symm,?_,?_,?_,?_,?_,⟨?_,?_⟩,⟨?_,?_⟩,?_,?_⟩,?_,?_⟩
  ·refine T0 (by omega) (by omega)
  ·simp only[St.only];rw[if_neg (by decide)];exact h2
  ·exact aW
  ·simp only[St.only];rw[if_neg (by decide)];exact aq
  ·exact a5
  ·simp only[St.only];rw[if_neg (by decide)];exact aK
  ·exact a9
  ·simp only[St.only];rw[if_neg (by decide)];exact aG
  ·exact bq
  ·simp only[St.only];rw[if_neg (by decide)];exact aM
  ·exact aY
  ·clear cv h2 aW aq a5 aK a9 aG bq aM aY
   rintro k xs s ad pj ⟨p,yZ,fD,qp,h2,aW,aq,a5,⟨aK,a9⟩,⟨aG,bq⟩,aM,aY⟩
   rw[J0]at pj
   simp only[Option.some.injEq]at pj
   subst pj
   refine⟨rfl,?_⟩
   have oz:=BF gp k
   have awl:(k:Int)*(2*w+16)≤12*(2*w+16):=Int.mul_le_mul_of_nonneg_right (by omega) (by omega)
   have atA:0≤(k:Int)*(2*w+16):=Int.mul_nonneg (by omega) (by omega)
   obtain⟨q,aO⟩:∃q,q=aB w k:=⟨_,rfl⟩
   rw[←aO]at oz⊢
   simp only[Fh]
   have KX:((s.put (some 12) (c3 (en q))).af 12)= .agg (Lh q):=rfl
   have aX:(s.put (some 12) (c3 (en q))).af 2= .box 2 0:=h2
   have cc:(s.put (some 12) (c3 (en q))).af 3= .box 3 0:=aq
   have cN:(s.put (some 12) (c3 (en q))).af 4= .box 4 0:=aK
   have dN:(s.put (some 12) (c3 (en q))).af 5= .box 5 0:=aG
   have fH:(s.put (some 12) (c3 (en q))).af 6= .box 6 0:=aM
   have f2:(s.put (some 12) (c3 (en q))).aA 2=_:=aW
   have f3:(s.put (some 12) (c3 (en q))).aA 3=_:=a5
   have f4:(s.put (some 12) (c3 (en q))).aA 4=_:=a9
   have f5:(s.put (some 12) (c3 (en q))).aA 5=_:=bq
   have f6:(s.put (some 12) (c3 (en q))).aA 6=_:=aY
   generalize s.put (some 12) (c3 (en q))=t at KX aX cc cN dN fH f2 f3 f4 f5 f6⊢
   clear h2 aW aq a5 aK a9 aG bq aM aY s
   refine zD (fun s=>Ax K Q (k+3:Nat) w p s∧h8 7 q s) ?_ ?_
   ·simp (maxSteps:=9^9) only[↓al,ak,simprocAttr,aX,cc,cN,dN,fH,f2,f3,f4,f5,f6,KX,Lh,Ax,ig,h8]
   clear aX cc cN dN fH f2 f3 f4 f5 f6 KX t
   rintro s ⟨⟨h2,aW,aq,a5,⟨aK,a9⟩,⟨aG,bq⟩,aM,aY⟩,aS,b6⟩
   show cb Γ _ _ s
   by_cases Ay:((k+3:Nat):Int)>(Q:Int)
   ·have b8:n - k=0:=by omega
    rw[b8]at fD
    have fD:p=R:=fD
    subst fD
    simp (maxSteps:=9^9) only[↓al,ak,simprocAttr,h2,aW,aq,a5,aK,a9,aG,bq,aM,aY,aS,b6,Ay,ig,h8,II,IJ,List.contains_cons,List.contains_nil,Nat.reduceBEq,Nat.reduceBeqDiff,Bool.or_false,Bool.false_eq_true]
   ·have bl:k<n:=by omega
    have azN:¬((k:Int)+3>(Q:Int)):=by omega
    have es:(Q:Int) - ((k+3:Nat):Int)=((Q - (k+3):Nat):Int):=by omega
    have Lj:Q - (k+3)≤64:=by omega
    have aw:=aaQ K (Q - (k+3))
    have g3:((1:Int)==1)=true:=rfl
    have VN:((0:Int)==1)=false:=rfl
    have e5:rT K Q w (n - (k+1)) (k+1+3) (if (K / 2^(Q - (k+3))) % 2=1 then tF p q w else p)=R:=by
     rw[←fD,show n - k=n - (k+1)+1 by omega,Zw,Int.toNat_natCast,Int.toNat_natCast,show k+3 - 3=k by omega,←aO]
    rcases (by omega:K / 2^(Q - (k+3)) % 2=1∨K / 2^(Q - (k+3)) % 2=0)with ay|ay
    ·rw[ay]at aw
     rw[if_pos ay]at e5
     have aw:iH .i64 ((K:Int).fdiv (2^(Q - (k+3)))) 1=1:=aw
     have ahI:ri.pre [en p,en q,.int .i64 w]:=⟨p,q,w,rfl,yx qp (by omega) (by omega),yx oz (by omega) (by omega),gp,by omega⟩
     have ahJ:ri.res [en p,en q,.int .i64 w]=en (tF p q w):=by simp only[ri,E1]
     have kS:=yx (R1 qp oz gp) (lo':= -(((k+1:Nat):Int)*(2*w+16))) (hi':=1+10*((k+1:Nat):Int)) (by rw[Int.natCast_add,Int.add_mul];omega) (by omega)
     generalize tF p q w=z at*
     unfold en aZ at ahI ahJ
     simp (maxSteps:=9^9) only[↓al,ak,simprocAttr,h2,aW,aq,a5,aK,a9,aG,bq,aM,aY,aS,b6,Ay,es,Lj,aw,g3,atz,ahI,ahJ,ig,h8,Ax,II,IJ,List.contains_cons,List.contains_nil,Nat.reduceBEq,Nat.reduceBeqDiff,Bool.or_false,Bool.false_eq_true]
     exact⟨by simp only[aI];omega,by omega,by simp only[aI];omega,⟨z,by omega,e5,kS,rfl,by rw[show ((k+3:Nat):Int)+1=((k+1+3:Nat):Int)by omega]⟩,by omega⟩
    ·rw[ay]at aw
     rw[if_neg (by omega)]at e5
     have aw:iH .i64 ((K:Int).fdiv (2^(Q - (k+3)))) 1=0:=aw
     have kS:=yx qp (lo':= -(((k+1:Nat):Int)*(2*w+16))) (hi':=1+10*((k+1:Nat):Int)) (by rw[Int.natCast_add,Int.add_mul];omega) (by omega)
     simp (maxSteps:=9^9) only[↓al,ak,simprocAttr,h2,aW,aq,a5,aK,a9,aG,bq,aM,aY,aS,b6,Ay,es,Lj,aw,VN,ig,h8,Ax,II,IJ,List.contains_cons,List.contains_nil,Nat.reduceBEq,Nat.reduceBeqDiff,Bool.or_false,Bool.false_eq_true]
     exact⟨by simp only[aI];omega,by omega,by simp only[aI];omega,⟨p,by omega,e5,kS,rfl,by rw[show ((k+3:Nat):Int)+1=((k+1+3:Nat):Int)by omega]⟩,by omega⟩
  ·rintro k s pj _
   rw[J0]at pj
   cases pj
 ·clear h2 aW aq a5 aK a9 aG bq aM aY
  rintro s ⟨⟨aK,a9⟩,aG,bq⟩
  show cb Γ _ _ _
  simp (maxSteps:=9^9) only[↓al,ak,simprocAttr,acJ,aK,a9,aG,bq,en,aZ]
def rm:br where
 pre:=fun ds=>∃p:dL,ds=[en p]
 res:=fun ds=>match ds with
  |[p]=>a2 (jH p).c
  |_=> .nilp
theorem Gi (Γ:Env) (ds:List D) (h:rm.pre ds):bK Γ acp acq ds fun d=>d=rm.res ds:=by
 obtain⟨p,rfl⟩:=h
 have bO:rm.res [en p]=a2 p.c:=by simp only[rm,E1]
 rw[bO]
 simp (maxSteps:=9^9) only[↓al,ak,simprocAttr,acp,acq,en,a2]
def rn:br where
 pre:=fun ds=>∃p:dL,ds=[en p]
 res:=fun ds=>match ds with
  |[p]=>a2 (jH p).s
  |_=> .nilp
theorem Gj (Γ:Env) (ds:List D) (h:rn.pre ds):bK Γ adI adJ ds fun d=>d=rn.res ds:=by
 obtain⟨p,rfl⟩:=h
 have bO:rn.res [en p]=a2 p.s:=by simp only[rn,E1]
 rw[bO]
 simp (maxSteps:=9^9) only[↓al,ak,simprocAttr,adI,adJ,en,a2]
end RV.Dr
namespace RR
theorem My (x:Rat):0≤x*x:=by
 by_cases h:0≤x
 ·exact Rat.mul_nonneg h h
 ·have:0≤(-x)*(-x):=Rat.mul_nonneg (by grind) (by grind)
  grind
theorem R4 {a x B e:Rat} (h1: -B<a) (h2:a<B) (aq: -e<x) (aK:x<e): -(B*e)<a*x∧a*x<B*e:=by
 have p1:0<(B - a)*(e+x):=Rat.mul_pos (by grind) (by grind)
 have cq:0<(B+a)*(e - x):=Rat.mul_pos (by grind) (by grind)
 have fK:0<(B - a)*(e - x):=Rat.mul_pos (by grind) (by grind)
 have Av:0<(B+a)*(e+x):=Rat.mul_pos (by grind) (by grind)
 constructor<;>grind
def g4 (f:Nat→Rat):Prop:=∀ε:Rat,0<ε→∃N,∀m n,N≤m→N≤n→f m - f n<ε
def iv (f:Nat→Rat):Prop:=∀ε:Rat,0<ε→∃N,∀n,N≤n→-ε<f n∧f n<ε
theorem g4.bound {f:Nat→Rat} (h:g4 f):∃B:Rat,0<B∧∃N,∀n,N≤n→-B<f n∧f n<B:=by
 obtain⟨N,cg⟩:=h 1 (by decide)
 have s:=My (f N)
 have s1:=My (f N - 1)
 have s2:=My (f N+1)
 refine⟨f N*f N+2,by grind,N,fun n aJ=> ?_⟩
 have a:=cg n N aJ (Nat.le_refl _)
 have b:=cg N n (Nat.le_refl _) aJ
 constructor<;>grind
theorem iv.add {f g:Nat→Rat} (hf:iv f) (bb:iv g):iv fun n=>f n+g n:=fun ε h=>by
 obtain⟨N,cg⟩:=hf (ε / 2) (by grind)
 obtain⟨M,cp⟩:=bb (ε / 2) (by grind)
 refine⟨max N M,fun n aJ=> ?_⟩
 have:=cg n (by omega)
 have:=cp n (by omega)
 constructor<;>grind
theorem iv.neg {f:Nat→Rat} (hf:iv f):iv fun n=> -f n:=fun ε h=>by
 obtain⟨N,cg⟩:=hf ε h
 refine⟨N,fun n aJ=> ?_⟩
 have:=cg n aJ
 constructor<;>grind
theorem iv.mul {f g:Nat→Rat} (hf:g4 f) (bb:iv g):iv fun n=>f n*g n:=fun ε h=>by
 obtain⟨B,ai,N,cg⟩:=hf.bound
 obtain⟨M,cp⟩:=bb (ε / B) (by rw[Rat.div_def];exact Rat.mul_pos h (Rat.inv_pos.2 ai))
 refine⟨max N M,fun n aJ=> ?_⟩
 have a:=cg n (by omega)
 have b:=cp n (by omega)
 have c:=R4 a.1 a.2 b.1 b.2
 have e:B*(ε / B)=ε:=by grind
 rw[e]at c
 exact c
theorem iv.eq {f g:Nat→Rat} (hf:iv f) (h:∀n,g n=f n):iv g:=by
 have:g=f:=funext h
 rw[this];exact hf
theorem g4.add {f g:Nat→Rat} (hf:g4 f) (bb:g4 g):g4 fun n=>f n+g n:=fun ε h=>by
 obtain⟨N,cg⟩:=hf (ε / 2) (by grind)
 obtain⟨M,cp⟩:=bb (ε / 2) (by grind)
 refine⟨max N M,fun m n hm aJ=> ?_⟩
 have:=cg m n (by omega) (by omega)
 have:=cp m n (by omega) (by omega)
 grind
theorem g4.neg {f:Nat→Rat} (hf:g4 f):g4 fun n=> -f n:=fun ε h=>by
 obtain⟨N,cg⟩:=hf ε h
 refine⟨N,fun m n hm aJ=> ?_⟩
 have:=cg n m aJ hm
 grind
theorem g4.mul {f g:Nat→Rat} (hf:g4 f) (bb:g4 g):g4 fun n=>f n*g n:=fun ε h=>by
 obtain⟨B,ai,N,cg⟩:=hf.bound
 obtain⟨C,gV,M,cp⟩:=bb.bound
 obtain⟨ayD,ahK⟩:=hf (ε / 2 / C) (by rw[Rat.div_def];exact Rat.mul_pos (by grind) (Rat.inv_pos.2 gV))
 obtain⟨lQ,sU⟩:=bb (ε / 2 / B) (by rw[Rat.div_def];exact Rat.mul_pos (by grind) (Rat.inv_pos.2 ai))
 refine⟨max (max N M) (max ayD lQ),fun m n hm aJ=> ?_⟩
 have a:=cg m (by omega)
 have b:=cp n (by omega)
 have c:=ahK m n (by omega) (by omega)
 have c':=ahK n m (by omega) (by omega)
 have d:=sU m n (by omega) (by omega)
 have hQ:=sU n m (by omega) (by omega)
 have p:=(R4 a.1 a.2 (x:=g m - g n) (e:=ε / 2 / B) (by grind) (by grind)).2
 have q:=(R4 b.1 b.2 (x:=f m - f n) (e:=ε / 2 / C) (by grind) (by grind)).2
 have aN:B*(ε / 2 / B)=ε / 2:=by grind
 have aX:C*(ε / 2 / C)=ε / 2:=by grind
 grind
theorem g4.const (q:Rat):g4 fun _=>q:=fun ε h=>⟨0,fun _ _ _ _=>by grind⟩
structure LQ where
 f:Nat→Rat
 h:g4 f
instance:Setoid LQ where
 r a b:=iv fun n=>a.f n - b.f n
 iseqv:= {
  refl:=fun a ε h=>⟨0,fun n _=>by constructor<;>grind⟩
  symm:=fun h=>h.neg.eq fun n=>by grind
  trans:=fun h k=>(h.add k).eq fun n=>by grind }
def R:=Quotient (inferInstance:Setoid LQ)
def R.of (f:Nat→Rat) (h:g4 f):R:=Quotient.mk _ ⟨f,h⟩
theorem R.sound {f g:Nat→Rat} (hf:g4 f) (bb:g4 g) (h:iv fun n=>f n - g n):R.of f hf=R.of g bb:=Quotient.sound h
theorem R.exact {f g:Nat→Rat} {hf:g4 f} {bb:g4 g} (h:R.of f hf=R.of g bb):iv fun n=>f n - g n:=Quotient.exact h
theorem R.ex (x:R):∃f h,x=R.of f h:=by
 induction x using Quotient.ind with
 |_ a=>exact⟨a.f,a.h,rfl⟩
def R.add:R→R→R:=Quotient.lift₂ (fun a b=>R.of _ (a.h.add b.h)) fun a b c d h k=>R.sound _ _ ((iv.add h k).eq fun n=>by grind)
def R.mul:R→R→R:=Quotient.lift₂ (fun a b=>R.of _ (a.h.mul b.h)) fun a b c d h k=>R.sound _ _ (((iv.mul a.h k).add (iv.mul d.h h)).eq fun n=>by grind)
def R.neg:R→R:=Quotient.lift (fun a=>R.of _ a.h.neg) fun a b h=>R.sound _ _ ((iv.neg h).eq fun n=>by grind)
def R.rat (q:Rat):R:=R.of _ (g4.const q)
instance:Add R:=⟨R.add⟩
instance:Mul R:=⟨R.mul⟩
instance:Neg R:=⟨R.neg⟩
instance:Sub R:=⟨fun a b=>a+ -b⟩
theorem R.ext {f g:Nat→Rat} (hf:g4 f) (bb:g4 g) (h:∀n,f n=g n):R.of f hf=R.of g bb:=by
 have:f=g:=funext h
 subst this;rfl
def R.npow (x:R):Nat→R
 |0=>R.rat 1
 |n+1=>R.npow x n*x
@[reducible] def asr {C:Type→Type} {α:Type} (_:C α) (β:Type):Type:=C β
@[reducible] def arn {S:Type→Type} {C:(α:Type)→S α→(l:LE α)→LT α→@Std.IsPreorder α l→Prop} {α:Type} {s:S α} {l:LE α} {k:LT α} {p:Std.IsPreorder α} (_:C α s l k p) (β:Type) (ef:S β) (ky:LE β) (cX:LT β) (dx:Std.IsPreorder β):Prop:=C β ef ky cX dx
instance:asr Dyadic.instCommRing R where
 natCast:=⟨fun n=>R.rat (n:Rat)⟩
 ofNat n:=⟨R.rat (n:Rat)⟩
 nsmul:=⟨fun n x=>R.rat (n:Rat)*x⟩
 npow:=⟨R.npow⟩
 intCast:=⟨fun n=>R.rat (n:Rat)⟩
 zsmul:=⟨fun n x=>R.rat (n:Rat)*x⟩
 add_zero x:=by obtain⟨f,hf,rfl⟩:=R.ex x;exact R.ext _ _ fun n=>by show f n+(0:Nat)=_;grind
 add_comm x y:=by obtain⟨f,hf,rfl⟩:=R.ex x;obtain⟨g,bb,rfl⟩:=R.ex y;exact R.ext _ _ fun n=>by grind
 add_assoc x y z:=by obtain⟨f,hf,rfl⟩:=R.ex x;obtain⟨g,bb,rfl⟩:=R.ex y;obtain⟨k,ad,rfl⟩:=R.ex z;exact R.ext _ _ fun n=>by grind
 mul_assoc x y z:=by obtain⟨f,hf,rfl⟩:=R.ex x;obtain⟨g,bb,rfl⟩:=R.ex y;obtain⟨k,ad,rfl⟩:=R.ex z;exact R.ext _ _ fun n=>by grind
 mul_comm x y:=by obtain⟨f,hf,rfl⟩:=R.ex x;obtain⟨g,bb,rfl⟩:=R.ex y;exact R.ext _ _ fun n=>by grind
 mul_one x:=by obtain⟨f,hf,rfl⟩:=R.ex x;exact R.ext _ _ fun n=>by show f n*(1:Nat)=_;grind
 one_mul x:=by obtain⟨f,hf,rfl⟩:=R.ex x;exact R.ext _ _ fun n=>by show (1:Nat)*f n=_;grind
 left_distrib x y z:=by obtain⟨f,hf,rfl⟩:=R.ex x;obtain⟨g,bb,rfl⟩:=R.ex y;obtain⟨k,ad,rfl⟩:=R.ex z;exact R.ext _ _ fun n=>by grind
 right_distrib x y z:=by obtain⟨f,hf,rfl⟩:=R.ex x;obtain⟨g,bb,rfl⟩:=R.ex y;obtain⟨k,ad,rfl⟩:=R.ex z;exact R.ext _ _ fun n=>by grind
 zero_mul x:=by obtain⟨f,hf,rfl⟩:=R.ex x;exact R.ext _ _ fun n=>by show (0:Nat)*f n=(0:Nat);grind
 mul_zero x:=by obtain⟨f,hf,rfl⟩:=R.ex x;exact R.ext _ _ fun n=>by show f n*(0:Nat)=(0:Nat);grind
 pow_zero x:=rfl
 pow_succ x n:=rfl
 ofNat_succ n:=R.ext _ _ fun _=>by show ((n+1:Nat):Rat)=(n:Rat)+((1:Nat):Rat);grind
 ofNat_eq_natCast n:=rfl
 nsmul_eq_natCast_mul n x:=rfl
 neg_add_cancel x:=by obtain⟨f,hf,rfl⟩:=R.ex x;exact R.ext _ _ fun n=>by show -f n+f n=(0:Nat);grind
 sub_eq_add_neg x y:=rfl
 neg_zsmul n x:=by obtain⟨f,hf,rfl⟩:=R.ex x;exact R.ext _ _ fun k=>by show ((-n:Int):Rat)*f k= -((n:Rat)*f k);grind
 zsmul_natCast_eq_nsmul n x:=by obtain⟨f,hf,rfl⟩:=R.ex x;exact R.ext _ _ fun k=>by show (((n:Nat):Int):Rat)*f k=(n:Rat)*f k;rw[Rat.intCast_natCast]
 intCast_ofNat n:=R.ext _ _ fun _=>Rat.intCast_natCast n
 intCast_neg n:=R.ext _ _ fun _=>by show ((-n:Int):Rat)= -(n:Rat);grind
def R.pos:R→Prop:=Quotient.lift (fun a=>∃ε:Rat,0<ε∧∃N,∀n,N≤n→ε<a.f n) fun a b h=>by
 have key:∀{a b:LQ},iv (fun n=>a.f n - b.f n)→(∃ε:Rat,0<ε∧∃N,∀n,N≤n→ε<a.f n)→∃ε:Rat,0<ε∧∃N,∀n,N≤n→ε<b.f n:=by
  rintro a b h ⟨ε,he,N,cg⟩
  obtain⟨M,cp⟩:=h (ε / 2) (by grind)
  refine⟨ε / 2,by grind,max N M,fun n aJ=> ?_⟩
  have:=cg n (by omega)
  have:=cp n (by omega)
  grind
 exact propext ⟨key h,key ((iv.neg h).eq fun n=>by grind)⟩
theorem apr {x y:R} (aj:x.pos) (hy:y.pos):(x+y).pos:=by
 obtain⟨f,hf,rfl⟩:=R.ex x
 obtain⟨g,bb,rfl⟩:=R.ex y
 obtain⟨a,a6,N,cg⟩:=aj
 obtain⟨b,aw,M,cp⟩:=hy
 refine⟨a+b,by grind,max N M,fun n aJ=> ?_⟩
 have:a<f n:=cg n (by omega)
 have:b<g n:=cp n (by omega)
 show a+b<f n+g n
 grind
theorem IM {x y:R} (aj:x.pos) (hy:y.pos):(x*y).pos:=by
 obtain⟨f,hf,rfl⟩:=R.ex x
 obtain⟨g,bb,rfl⟩:=R.ex y
 obtain⟨a,a6,N,cg⟩:=aj
 obtain⟨b,aw,M,cp⟩:=hy
 refine⟨a*b,Rat.mul_pos a6 aw,max N M,fun n aJ=> ?_⟩
 have h1:a<f n:=cg n (by omega)
 have h2:b<g n:=cp n (by omega)
 show a*b<f n*g n
 have p:=Rat.mul_pos (show 0<f n - a by grind) (show 0<g n by grind)
 have q:=Rat.mul_pos a6 (show 0<g n - b by grind)
 grind
theorem Ni {x:R} (aj:x.pos) (hy:(-x).pos):False:=by
 obtain⟨f,hf,rfl⟩:=R.ex x
 obtain⟨a,a6,N,cg⟩:=aj
 obtain⟨b,aw,M,cp⟩:=hy
 have h1:a<f (max N M):=cg _ (by omega)
 have h2:b< -f (max N M):=cp _ (by omega)
 grind
theorem aad (x:R):x=0∨x.pos∨(-x).pos:=by
 obtain⟨f,hf,rfl⟩:=R.ex x
 by_cases h:iv f
 ·left
  exact R.sound hf (g4.const ((0:Nat):Rat)) (h.eq fun n=>by show f n - (0:Nat)=f n;grind)
 ·right
  unfold iv at h
  obtain⟨ε,h⟩:=Classical.not_forall.1 h
  obtain⟨he,h⟩:=Classical.not_imp.1 h
  obtain⟨N,cg⟩:=hf (ε / 2) (by grind)
  have h:=Classical.not_forall.1 (fun k=>h ⟨N,k⟩)
  obtain⟨m,h⟩:=h
  obtain⟨hm,h⟩:=Classical.not_imp.1 h
  by_cases c:f m<ε
  ·right
   refine⟨ε / 2,by grind,N,fun n aJ=> ?_⟩
   have:=cg n m aJ hm
   show ε / 2< -f n
   have:¬-ε<f m:=fun k=>h ⟨k,c⟩
   grind
  ·left
   refine⟨ε / 2,by grind,N,fun n aJ=> ?_⟩
   have:=cg m n hm aJ
   grind
instance:LT R:=⟨fun a b=>(b - a).pos⟩
instance:LE R:=⟨fun a b=>¬(a - b).pos⟩
theorem lt_def {a b:R} :a<b↔(b - a).pos:=Iff.rfl
theorem le_def {a b:R} :a≤b↔¬(a - b).pos:=Iff.rfl
theorem ajZ:¬(0:R).pos:=fun h=>Ni h ((show (-0:R)=0 by grind).symm▸h)
theorem aae:(1:R).pos:=⟨1 / 2,by grind,0,fun _ _=>by show (1 / 2:Rat)<((1:Nat):Rat);grind⟩
theorem yb {a b:R} (h:a≤b):a=b∨a<b:=by
 rcases aad (a - b)with k|k|k
 ·left;grind
 ·exact absurd k h
 ·right;rw[lt_def];have e:b - a= -(a - b):=by grind
  rw[e];exact k
instance:Std.IsLinearOrder R where
 le_refl a:=by rw[le_def];have e:a - a=0:=by grind
               rw[e];exact ajZ
 le_trans a b c h k:=by
  rw[le_def];intro p
  rcases yb h with rfl|et
  ·exact k p
  ·rcases yb k with rfl|cX
   ·exact h p
   ·refine Ni (apr et cX) ?_
    have e: -(b - a+(c - b))=a - c:=by grind
    rw[e];exact p
 le_antisymm a b h k:=by
  rcases yb h with rfl|et
  ·rfl
  ·exact absurd et k
 le_total a b:=by
  by_cases h:(a - b).pos
  ·right;intro k;refine Ni h ?_
   have e: -(a - b)=b - a:=by grind
   rw[e];exact k
  ·left;exact h
instance:Std.LawfulOrderLT R where
 lt_iff a b:=by
  constructor
  ·intro h
   refine⟨fun k=>Ni h (by have e: -(b - a)=a - b:=by grind
                          rw[e];exact k),fun k=>k h⟩
  ·rintro⟨h,k⟩
   exact Classical.not_not.1 k
instance:arn Dyadic.instOrderedRing R (by infer_instance) (by infer_instance) (by infer_instance) (by infer_instance)where
 add_le_left_iff {a b} c:=by
  rw[le_def,le_def,show a+c - (b+c)=a - b by grind]
 zero_lt_one:=by rw[lt_def,show (1:R) - 0=1 by grind];exact aae
 mul_lt_mul_of_pos_left {a b c} h k:=by
  rw[lt_def]at*
  rw[show c*b - c*a=c*(b - a)by grind]
  exact IM (by rw[show c - 0=c by grind]at k;exact k) h
 mul_lt_mul_of_pos_right {a b c} h k:=by
  rw[lt_def]at*
  rw[show b*c - a*c=c*(b - a)by grind]
  exact IM (by rw[show c - 0=c by grind]at k;exact k) h
theorem amo {q δ:Rat} (aO:0≤q) (qq:0<δ):∃y,0≤y∧y*y≤q∧q<(y+δ)*(y+δ):=by
 have aD:0<δ*δ:=Rat.mul_pos qq qq
 obtain⟨z,bp⟩:∃z,z=q / (δ*δ):=⟨_,rfl⟩
 have Dq:0≤z:=by rw[bp,Rat.div_def];exact Rat.mul_nonneg aO (Rat.le_of_lt (Rat.inv_pos.2 aD))
 have azO:z*(δ*δ)=q:=by grind
 have f0:0≤z.floor:=Rat.le_floor_iff.2 (by exact_mod_cast Dq)
 obtain⟨a,a6⟩:∃a:Nat,z.floor=a:=⟨z.floor.toNat,by omega⟩
 have f1:=Rat.floor_le z
 have f2:=Rat.lt_floor_add_one z
 rw[a6]at f1 f2
 have s:=RV.oL a
 obtain⟨r,ar⟩:∃r,r=RV.a7 a:=⟨_,rfl⟩
 rw[←ar]at s
 have s1:(r:Rat)*r≤(a:Rat):=by exact_mod_cast s.1
 have s2:(a:Rat)+1≤((r:Rat)+1)*(r+1):=by exact_mod_cast s.2
 have f1:(a:Rat)≤z:=by exact_mod_cast f1
 have f2:z<(a:Rat)+1:=by exact_mod_cast f2
 have ia:(0:Rat)≤r:=by exact_mod_cast Nat.zero_le r
 refine⟨r*δ,Rat.mul_nonneg ia (Rat.le_of_lt qq),?_,?_⟩
 ·have:=Rat.mul_nonneg (show 0≤z - r*r by grind) (Rat.le_of_lt aD)
  grind
 ·have:=Rat.mul_pos (show 0<((r:Rat)+1)*(r+1) - z by grind) aD
  grind
def dl (n:Nat):Rat:=1 / (n+1)
theorem Sy (n:Nat):0<dl n:=by
 have:(0:Rat)≤n:=by exact_mod_cast Nat.zero_le n
 unfold dl
 rw[Rat.div_def]
 exact Rat.mul_pos (by grind) (Rat.inv_pos.2 (by grind))
theorem Zx {ε:Rat} (h:0<ε):∃N,∀n,N≤n→dl n<ε:=by
 refine⟨(1 / ε).floor.toNat+1,fun n aJ=> ?_⟩
 have f2:=Rat.lt_floor_add_one (1 / ε)
 have sI:(1 / ε).floor+1≤(n:Int):=by omega
 have h1:1 / ε<(n:Rat):=by
  refine Std.lt_of_lt_of_le f2 ?_
  have:(((1 / ε).floor+1:Int):Rat)≤((n:Int):Rat):=by exact_mod_cast sI
  rwa [Rat.intCast_natCast]at this
 have eS:(0:Rat)≤n:=by exact_mod_cast Nat.zero_le n
 have p:=Sy n
 have e:dl n*(n+1)=1:=by unfold dl;grind
 have aX:1 / ε*ε=1:=by grind
 have q:=Rat.mul_pos (show 0<(n:Rat)+1 - 1 / ε by grind) (Rat.mul_pos h p)
 have cc:((n:Rat)+1 - 1 / ε)*(ε*dl n)=ε - dl n:=by grind
 rw[cc]at q
 grind
noncomputable def rt (q δ:Rat):Rat:=Classical.epsilon fun y=>0≤y∧(0<δ→y*y≤(if 0≤q then q else 0)∧(if 0≤q then q else 0)<(y+δ)*(y+δ))
theorem aps (q δ:Rat) (qq:0<δ):0≤rt q δ∧rt q δ*rt q δ≤(if 0≤q then q else 0)∧(if 0≤q then q else 0)<(rt q δ+δ)*(rt q δ+δ):=by
 have:∃y,0≤y∧(0<δ→y*y≤(if 0≤q then q else 0)∧(if 0≤q then q else 0)<(y+δ)*(y+δ)):=by
  obtain⟨y,h1,h2⟩:=amo (q:=if 0≤q then q else 0) (by split<;>grind) qq
  exact⟨y,h1,fun _=>h2⟩
 have:=Classical.epsilon_spec this
 exact⟨this.1,this.2 qq⟩
theorem aro {y:Nat→Rat} (h0:∀n,0≤y n) (h:g4 fun n=>y n*y n):g4 y:=fun ε he=>by
 obtain⟨N,cg⟩:=h (ε*ε) (Rat.mul_pos he he)
 refine⟨N,fun m n hm aJ=> ?_⟩
 have a:=cg m n hm aJ
 have b:=h0 m
 have c:=h0 n
 refine Rat.not_le.1 fun k=> ?_
 have p:=Rat.mul_nonneg (show 0≤y m - y n - ε by grind) (show 0≤y m - y n+ε by grind)
 have q:=Rat.mul_nonneg (show 0≤y m - y n by grind) c
 grind
theorem ass {f:Nat→Rat} {hf:g4 f} (h:0≤R.of f hf) {ε:Rat} (he:0<ε):∃N,∀n,N≤n→-ε<f n:=by
 rcases yb h with k|k
 ·have:=R.exact (hf:=g4.const ((0:Nat):Rat)) k
  obtain⟨N,cg⟩:=this ε he
  refine⟨N,fun n aJ=> ?_⟩
  have:=(cg n aJ).2
  have e:((0:Nat):Rat)=0:=rfl
  grind
 ·rw[lt_def,show R.of f hf - 0=R.of f hf by grind]at k
  obtain⟨a,a6,N,cg⟩:=k
  refine⟨N,fun n aJ=> ?_⟩
  have:a<f n:=cg n aJ
  grind
theorem apt {B ε WA δ q y:Rat} (s1:0≤y) (s2:y*y≤if 0≤q then q else 0) (qA:(if 0≤q then q else 0)<(y+δ)*(y+δ)) (a: -B<q∧q<B) (b: -ε<q) (ai:0<B) (c:δ<WA) (d:δ<1) (p:0<δ) (he:0<ε)
 (qH:WA*(2*(B+2))=ε): -ε<y*y - q∧y*y - q<ε:=by
 by_cases h:0≤q
 ·rw[if_pos h]at s2 qA
  have aAr:y≤B+1:=by
   refine Rat.not_lt.1 fun k=> ?_
   have:=Rat.mul_pos (show 0<y - (B+1)by grind) (show 0<y+(B+1)by grind)
   have:=Rat.mul_pos ai ai
   grind
  have e0:=Rat.mul_nonneg (show 0≤B+1 - y by grind) (Rat.le_of_lt p)
  have gw:=Rat.mul_pos (show 0<1 - δ by grind) p
  have Aw:=Rat.mul_pos (show 0<WA - δ by grind) (show 0<2*(B+2)by grind)
  constructor<;>grind
 ·rw[if_neg h]at s2 qA
  have:=My y
  constructor<;>grind
theorem apu (x:R) (aj:0≤x):∃y:R,0≤y∧y*y=x:=by
 obtain⟨f,hf,rfl⟩:=R.ex x
 have sp:=fun n=>aps (f n) (dl n) (Sy n)
 have key:iv fun n=>rt (f n) (dl n)*rt (f n) (dl n) - f n:=fun ε he=>by
  obtain⟨B,ai,N,cg⟩:=hf.bound
  obtain⟨M,cp⟩:=ass aj he
  have ay:0<ε / (2*(B+2)):=by rw[Rat.div_def];exact Rat.mul_pos he (Rat.inv_pos.2 (by grind))
  obtain⟨K,b9⟩:=Zx ay
  obtain⟨fe,awm⟩:=Zx (show (0:Rat)<1 by grind)
  refine⟨max (max N M) (max K fe),fun n aJ=> ?_⟩
  obtain⟨s1,s2,qA⟩:=sp n
  have a:=cg n (by omega)
  have b:=cp n (by omega)
  have c:=b9 n (by omega)
  have d:=awm n (by omega)
  have p:=Sy n
  exact apt s1 s2 qA a b ai c d p he (by grind)
 have ay:g4 fun n=>rt (f n) (dl n)*rt (f n) (dl n):=by
  have e:(fun n=>rt (f n) (dl n)*rt (f n) (dl n))=fun n=>f n+(rt (f n) (dl n)*rt (f n) (dl n) - f n):=funext fun n=>by grind
  rw[e]
  refine hf.add fun ε he=> ?_
  obtain⟨N,cg⟩:=key (ε / 2) (by grind)
  refine⟨N,fun m n hm aJ=> ?_⟩
  have:=cg m hm
  have:=cg n aJ
  grind
 have hy:=aro (fun n=>(sp n).1) ay
 refine⟨R.of _ hy,?_,R.sound _ hf key⟩
 rw[le_def]
 rintro⟨a,a6,N,cg⟩
 have h1:a<((0:Nat):Rat)+ -rt (f N) (dl N):=cg N (Nat.le_refl _)
 have h2:=(sp N).1
 have e:((0:Nat):Rat)=0:=rfl
 grind
end RR
namespace RR
instance:Inhabited R:=⟨0⟩
noncomputable def j4 (x:R):R:=Classical.epsilon fun y=>0≤y∧y*y=x
theorem qV {x:R} (h:0≤x):0≤j4 x∧j4 x*j4 x=x:=Classical.epsilon_spec (apu x h)
theorem QX (x:R):0≤x*x:=by
 rcases aad x with h|h|h
 ·rw[h];grind
 ·have:=IM h h
  have:(0:R)<x*x:=by rw[lt_def,show x*x - 0=x*x by grind];exact this
  grind
 ·have:=IM h h
  have:(0:R)<x*x:=by rw[lt_def,show x*x - 0= -x* -x by grind];exact this
  grind
theorem uS {x y:R} (aj:0<x) (hy:0<y):0<x*y:=by
 rw[lt_def,show x*y - 0=(x - 0)*(y - 0)by grind]
 exact IM aj hy
theorem b0 {x y:R} (aj:0≤x) (hy:0≤y):0≤x*y:=by
 rcases yb aj with h|h
 ·rw[←h];grind
 ·rcases yb hy with k|k
  ·rw[←k];grind
  ·have:=uS h k
   grind
theorem aaR {a b:R} (a6:0≤a) (aw:0≤b) (h:a*a=b*b):a=b:=by
 rcases Std.le_total (a:=a) (b:=b)with k|k
 ·rcases yb k with e|e
  ·exact e
  ·have:=uS (show 0<b - a by grind) (show 0<b+a by grind)
   grind
 ·rcases yb k with e|e
  ·exact e.symm
  ·have:=uS (show 0<a - b by grind) (show 0<b+a by grind)
   grind
theorem ha {a b:R} (aw:0≤b) (h:a*a≤b*b):a≤b:=by
 rcases Std.le_total (a:=a) (b:=b)with k|k
 ·exact k
 ·rcases yb k with e|e
  ·rw[e];grind
  ·have:=uS (show 0<a - b by grind) (show 0<a+b by grind)
   grind
def hf:R:=R.rat (1 / 2)
theorem qs:hf+hf=1:=R.ext _ _ fun _=>by show (1 / 2:Rat)+1 / 2=((1:Nat):Rat);grind
theorem sZ:0<hf:=by
 have:=qs
 have:(0:R)<1:=aae|>fun h=>by rw[lt_def,show (1:R) - 0=1 by grind];exact h
 grind
noncomputable def ay:Nat→R
 |0=>j4 hf
 |k+1=>j4 (hf*(1+ay k))
noncomputable def aE:Nat→R
 |0=>j4 hf
 |k+1=>j4 (hf*(1 - ay k))
theorem N0:∀k,0≤ay k∧ay k≤1∧0≤aE k∧ay k*ay k+aE k*aE k=1:=by
 have one:∀{c s:R},0≤c→c*c+s*s=1→c≤1:=fun {c s} h0 h=>by
  refine ha (by have:=sZ;have:=qs;grind) ?_
  have:=QX s
  grind
 intro k
 induction k with
 |zero=>
  have r:=qV (x:=hf) (by have:=sZ;grind)
  have e:ay 0*ay 0+aE 0*aE 0=1:=by unfold ay aE;rw[r.2];exact qs
  exact⟨r.1,one r.1 e,r.1,e⟩
 |succ k cJ=>
  obtain⟨h1,h2,aq,aK⟩:=cJ
  have z:=sZ
  have r:=qV (x:=hf*(1+ay k)) (b0 (by grind) (by have:=qs;grind))
  have t:=qV (x:=hf*(1 - ay k)) (b0 (by grind) (by grind))
  have e:ay (k+1)*ay (k+1)+aE (k+1)*aE (k+1)=1:=by
   unfold ay aE
   rw[r.2,t.2]
   have:=qs
   grind
  exact⟨r.1,one r.1 e,t.1,e⟩
theorem abr (k:Nat):ay k=ay (k+1)*ay (k+1) - aE (k+1)*aE (k+1)∧aE k=ay (k+1)*aE (k+1)+aE (k+1)*ay (k+1):=by
 obtain⟨h1,h2,aq,aK⟩:=N0 k
 have z:=sZ
 have gU:=qs
 have r:=qV (x:=hf*(1+ay k)) (b0 (by grind) (by grind))
 have t:=qV (x:=hf*(1 - ay k)) (b0 (by grind) (by grind))
 have Ci:ay (k+1)*ay (k+1)=hf*(1+ay k):=r.2
 have Aq:aE (k+1)*aE (k+1)=hf*(1 - ay k):=t.2
 have D1:0≤ay (k+1):=r.1
 have pt:0≤aE (k+1):=t.1
 constructor
 ·rw[Ci,Aq];grind
 ·have q:=b0 D1 pt
  refine aaR aq (by grind) ?_
  have e:(ay (k+1)*aE (k+1)+aE (k+1)*ay (k+1))*(ay (k+1)*aE (k+1)+aE (k+1)*ay (k+1))=4*((ay (k+1)*ay (k+1))*(aE (k+1)*aE (k+1))):=by grind
  rw[e,Ci,Aq]
  have aX:(hf+hf)*(hf+hf)=1:=by rw[qs];grind
  have cc:4*(hf*(1+ay k)*(hf*(1 - ay k)))=((hf+hf)*(hf+hf))*(1 - ay k*ay k):=by grind
  rw[cc,aX]
  grind
structure bD where
 dc:R
 de:R
theorem bD.ext' {a b:bD} (h:a.dc=b.dc) (k:a.de=b.de):a=b:=by cases a;cases b;simp only at h k;subst h k;rfl
def bD.mul (a b:bD):bD:=⟨a.dc*b.dc - a.de*b.de,a.dc*b.de+a.de*b.dc⟩
def bD.Gk (a:bD):bD:=⟨a.dc,-a.de⟩
def bD.one:bD:=⟨1,0⟩
def bD.I:bD:=⟨0,1⟩
theorem bD.assoc (a b c:bD):(a.mul b).mul c=a.mul (b.mul c):=ext' (by simp only[mul];grind) (by simp only[mul];grind)
theorem bD.comm (a b:bD):a.mul b=b.mul a:=ext' (by simp only[mul];grind) (by simp only[mul];grind)
theorem bD.mul_one (a:bD):a.mul one=a:=ext' (by simp only[mul,one];grind) (by simp only[mul,one];grind)
theorem bD.one_mul (a:bD):one.mul a=a:=by rw[comm,mul_one]
def bD.jg (a:bD):R:=a.dc*a.dc+a.de*a.de
theorem bD.R5 (a b:bD):(a.mul b).jg=a.jg*b.jg:=by simp only[jg,mul];grind
theorem bD.Zy {a:bD} (h:a.jg=1):a.mul a.Gk=one:=ext' (by simp only[mul,Gk,one];unfold jg at h;grind) (by simp only[mul,Gk,one];grind)
def bD.pow (a:bD):Nat→bD
 |0=>one
 |n+1=>(a.pow n).mul a
theorem bD.pow_add (a:bD) (m:Nat):∀n,a.pow (m+n)=(a.pow m).mul (a.pow n)
 |0=>(mul_one _).symm
 |n+1=>by show (a.pow (m+n)).mul a=_;rw[pow_add a m n,assoc];rfl
theorem bD.pow_mul (a:bD) (m:Nat):∀n,a.pow (m*n)=(a.pow m).pow n
 |0=>rfl
 |n+1=>by rw[Nat.mul_succ,pow_add,pow_mul a m n];rfl
theorem bD.one_pow:∀n,one.pow n=one
 |0=>rfl
 |n+1=>by show (one.pow n).mul one=_;rw[mul_one,one_pow n]
theorem bD.Nj:one.jg=1:=by simp only[jg,one];grind
theorem bD.aaf {a:bD} (h:a.jg=1):∀n,(a.pow n).jg=1
 |0=>Nj
 |n+1=>by show ((a.pow n).mul a).jg=1;rw[R5,aaf h n,h];grind
noncomputable def un:Nat→bD
 |0=>bD.one
 |1=>⟨-1,0⟩
 |2=>bD.I
 |q+3=>⟨ay q,aE q⟩
theorem ast:∀q,(un (q+1)).mul (un (q+1))=un q
 |0=>bD.ext' (by simp only[un,bD.mul,bD.one];grind) (by simp only[un,bD.mul,bD.one];grind)
 |1=>bD.ext' (by simp only[un,bD.mul,bD.I];grind) (by simp only[un,bD.mul,bD.I];grind)
 |2=>by
  have r:=qV (x:=hf) (by have:=sZ;grind)
  have e:=r.2
  have:=qs
  exact bD.ext' (by simp only[un,bD.mul,bD.I,ay,aE];grind) (by simp only[un,bD.mul,bD.I,ay,aE];grind)
 |q+3=>bD.ext' (abr q).1.symm (abr q).2.symm
theorem Jd:∀q,(un q).jg=1
 |0=>bD.Nj
 |1=>by simp only[un,bD.jg];grind
 |2=>by simp only[un,bD.jg,bD.I];grind
 |q+3=>(N0 q).2.2.2
theorem Sz (q:Nat):∀j,(un (q+j)).pow (2^j)=un q
 |0=>bD.one_mul _
 |j+1=>by
  have e:2^(j+1)=2*2^j:=by rw[Nat.pow_succ];omega
  rw[e,bD.pow_mul]
  have:(un (q+(j+1))).pow 2=un (q+j):=by
   show ((bD.one.mul _).mul _)=_
   rw[bD.one_mul];exact ast (q+j)
  rw[this,Sz q j]
noncomputable def pt (a:Nat):bD:=(un 60).pow a
theorem A8 (a b:Nat):pt (a+b)=(pt a).mul (pt b):=bD.pow_add ..
theorem NB (a:Nat):(pt a).jg=1:=bD.aaf (Jd 60) a
theorem pZ {q:Nat} (h:q≤60) (k:Nat):pt (k*2^(60 - q))=(un q).pow k:=by
 unfold pt
 have e:60=q+(60 - q):=by omega
 rw[Nat.mul_comm,bD.pow_mul]
 have:=Sz q (60 - q)
 rw[←e]at this
 rw[this]
theorem aag:pt 0=bD.one:=rfl
theorem Zz (k:Nat):pt (k*1152921504606846976)=bD.one:=by
 have:=pZ (q:=0) (by omega) k
 rw[show 2^(60 - 0)=1152921504606846976 by decide]at this
 rw[this];exact bD.one_pow k
theorem Je (a:Nat):pt (a % 1152921504606846976)=pt a:=by
 have e:=Nat.div_add_mod a 1152921504606846976
 have:pt a=pt (1152921504606846976*(a / 1152921504606846976)+a % 1152921504606846976):=by rw[e]
 rw[this,A8,Nat.mul_comm,Zz,bD.one_mul]
theorem arp {a b:Nat} {k:Nat} (h:a+b=k*1152921504606846976):pt b=(pt a).Gk:=by
 have e:(pt a).mul (pt b)=bD.one:=by rw[←A8,h,Zz]
 have c:=bD.Zy (NB a)
 rw[←bD.mul_one (pt b),←c,←bD.assoc,bD.comm (pt b),e,bD.one_mul]
theorem alj:pt 288230376151711744=bD.I:=by
 have:=pZ (q:=2) (by omega) 1
 rw[show 1*2^(60 - 2)=288230376151711744 by decide]at this
 rw[this];exact bD.one_mul _
theorem aah (k r:Nat):pt (k*288230376151711744+r)=(bD.I.pow k).mul (pt r):=by
 rw[A8]
 congr 1
 have:=pZ (q:=2) (by omega) k
 rw[show 2^(60 - 2)=288230376151711744 by decide]at this
 exact this
theorem arq {k r a:Nat} (h:a+r=k*288230376151711744):pt a=(bD.I.pow k).mul (pt r).Gk:=by
 have e:(pt a).mul (pt r)=bD.I.pow k:=by
  rw[←A8,h,←Nat.add_zero (k*288230376151711744),aah,aag,bD.mul_one]
 rw[←e,bD.assoc,bD.Zy (NB r),bD.mul_one]
end RR
namespace RV
open RR
def jM (d:a8):Rat:=(dQ d.neg d.m:Int)*(2:Rat)^d.e
theorem IP (a b:Int):(2:Rat)^(a+b)=2^a*2^b:=Rat.zpow_add (by decide) a b
theorem two_pos (a:Int):(0:Rat)<2^a:=Rat.zpow_pos (by decide)
theorem R6 (n:Nat):(2:Rat)^(n:Int)=((2^n:Int):Rat):=by
 rw[Rat.zpow_natCast,Rat.intCast_pow];rfl
theorem kN {E:Int} {d:a8} (l:d.m≠0→E≤d.e):jM d=(d.V E:Rat)*2^E:=by
 unfold jM
 by_cases h0:d.m=0
 ·rw[lZ h0,h0]
  have:dQ d.neg 0=0:=by cases d.neg<;>rfl
  rw[this]
  show (0:Rat)*_=(0:Rat)*_
  grind
 ·have h:=l h0
  unfold a8.V
  rw[Rat.intCast_mul,←R6,Rat.mul_assoc,←IP]
  congr 2
  omega
theorem apv {d:a8} (h:d.m=0):jM d=0:=by
 rw[kN (E:=0) (fun k=>absurd h k),lZ h]
 show (0:Rat)*_=_
 grind
theorem ars (a b:a8):jM (dW a b)=jM a+jM b:=by
 have b4:a.m≠0→min a.e b.e≤a.e:=fun _=>by omega
 have dJ:b.m≠0→min a.e b.e≤b.e:=fun _=>by omega
 rw[kN b4,kN dJ,kN (RW b4 dJ),SR b4 dJ,Rat.intCast_add]
 grind
theorem apw (a:a8):jM (eQ a)= -jM a:=by
 have b4:a.m≠0→a.e≤a.e:=fun _=>by omega
 rw[kN b4,kN (d:=eQ a) (E:=a.e) b4,aaD,Rat.intCast_neg]
 grind
theorem art (a b:a8):(cV a b).m≠0→a.e+b.e≤(cV a b).e:=kg (Int.le_refl _)
theorem aru (a b:a8):jM (cV a b)=jM a*jM b:=by
 rw[kN (art a b),asn (fun _=>Int.le_refl _) (fun _=>Int.le_refl _),kN (E:=a.e) (fun _=>Int.le_refl _),kN (E:=b.e) (fun _=>Int.le_refl _),Rat.intCast_mul,IP]
 grind
theorem anU (a:a8) (k:Int):jM (gi a k)=jM a*2^k:=by
 have l:(gi a k).m≠0→a.e+k≤(gi a k).e:=kg (Int.le_refl _)
 rw[kN l,apj k (fun _=>Int.le_refl _),kN (E:=a.e) (fun _=>Int.le_refl _),IP]
 grind
theorem asu {a b:a8} :e4 a b≤0↔jM a≤jM b:=by
 have b4:a.m≠0→min a.e b.e≤a.e:=fun _=>by omega
 have dJ:b.m≠0→min a.e b.e≤b.e:=fun _=>by omega
 rw[ard b4 dJ,kN b4,kN dJ]
 have p:=two_pos (min a.e b.e)
 generalize (2:Rat)^min a.e b.e=t at p
 constructor
 ·intro h
  exact Rat.mul_le_mul_of_nonneg_right (Rat.intCast_le_intCast.2 h) (Rat.le_of_lt p)
 ·intro h
  exact Rat.intCast_le_intCast.1 (Rat.le_of_mul_le_mul_right h p)
theorem asv {a b:a8} :e4 a b<0↔jM a<jM b:=by
 have b4:a.m≠0→min a.e b.e≤a.e:=fun _=>by omega
 have dJ:b.m≠0→min a.e b.e≤b.e:=fun _=>by omega
 rw[arf b4 dJ,kN b4,kN dJ]
 have p:=two_pos (min a.e b.e)
 generalize (2:Rat)^min a.e b.e=t at p
 constructor
 ·intro h
  exact Rat.mul_lt_mul_of_pos_right (Rat.intCast_lt_intCast.2 h) p
 ·intro h
  exact Rat.intCast_lt_intCast.1 (Rat.lt_of_mul_lt_mul_right h (Rat.le_of_lt p))
theorem arv {a b:a8} (a6:a.ok) (aw:b.ok) (h:jM a=jM b):a=b:=by
 have b4:a.m≠0→min a.e b.e≤a.e:=fun _=>by omega
 have dJ:b.m≠0→min a.e b.e≤b.e:=fun _=>by omega
 refine asm a6 aw b4 dJ ?_
 rw[kN b4,kN dJ]at h
 have p:=two_pos (min a.e b.e)
 generalize (2:Rat)^min a.e b.e=t at p h
 exact Int.le_antisymm (Rat.intCast_le_intCast.1 (Rat.le_of_mul_le_mul_right (by rw[h];exact Rat.le_refl) p)) (Rat.intCast_le_intCast.1 (Rat.le_of_mul_le_mul_right (by rw[h];exact Rat.le_refl) p))
theorem XB {a:a8} :ik a<0↔jM a<0:=by
 rw[kN (E:=a.e) (fun _=>Int.le_refl _),aaC (E:=a.e),Int.sign_neg_iff]
 have p:=two_pos a.e
 generalize (2:Rat)^a.e=t at p
 constructor
 ·intro h
  have:=Rat.mul_lt_mul_of_pos_right (Rat.intCast_lt_intCast.2 h) p
  simpa using this
 ·intro h
  refine Rat.intCast_lt_intCast.1 (Rat.lt_of_mul_lt_mul_right (c:=t) ?_ (Rat.le_of_lt p))
  show _<(0:Rat)*t
  grind
end RV
namespace RR
theorem R7 (p q:Rat):R.rat (p+q)=R.rat p+R.rat q:=R.ext _ _ fun _=>rfl
theorem IQ (p q:Rat):R.rat (p*q)=R.rat p*R.rat q:=R.ext _ _ fun _=>rfl
theorem aai (p:Rat):R.rat (-p)= -R.rat p:=R.ext _ _ fun _=>rfl
theorem anV:R.rat 0=0:=rfl
theorem apx:R.rat 1=1:=rfl
theorem EP {p q:Rat} :R.rat p<R.rat q↔p<q:=by
 rw[lt_def]
 constructor
 ·rintro⟨a,a6,N,cg⟩
  have:a<q+ -p:=cg N (Nat.le_refl _)
  grind
 ·intro h
  exact⟨(q - p) / 2,by grind,0,fun n _=>by show (q - p) / 2<q+ -p;grind⟩
theorem Jf {p q:Rat} :R.rat p≤R.rat q↔p≤q:=by
 constructor
 ·intro h
  refine Rat.not_lt.1 fun k=> ?_
  have:=EP.2 k
  grind
 ·intro h
  refine Classical.not_not.1 fun k=> ?_
  have:R.rat q<R.rat p:=by
   rcases Std.le_total (a:=R.rat p) (b:=R.rat q)with e|e
   ·exact absurd e k
   ·rcases yb e with e|e
    ·rw[e]at k;exact absurd (by grind) k
    ·exact e
  have:=EP.1 this
  grind
def ax (e:Int):R:=R.rat ((2:Rat)^e)
theorem g7 (a b:Int):ax (a+b)=ax a*ax b:=by unfold ax;rw[RV.IP,IQ]
theorem c8 (a:Int):0<ax a:=by unfold ax;rw[←anV,EP];exact RV.two_pos a
theorem uY:ax 0=1:=rfl
theorem iG {a b:Int} (h:a≤b):ax a≤ax b:=by
 unfold ax
 rw[Jf]
 have e:b=a+((b - a).toNat:Nat):=by omega
 rw[e,RV.IP,RV.R6]
 have p:=RV.two_pos a
 have q:(1:Rat)≤((2^(b - a).toNat:Int):Rat):=by
  have:(1:Int)≤2^(b - a).toNat:=by
   have:=Nat.one_le_two_pow (n:=(b - a).toNat)
   exact_mod_cast this
  exact_mod_cast this
 have:=Rat.mul_nonneg (Rat.le_of_lt p) (show 0≤((2^(b - a).toNat:Int):Rat) - 1 by grind)
 grind
theorem fk (a:Int):ax (a+1)=ax a+ax a:=by
 rw[g7]
 have:ax 1=1+1:=by unfold ax;rw[←apx,←R7];congr 1;decide+kernel
 rw[this];grind
end RR
namespace RV.Dr
open RV RR
set_option linter.unusedSimpArgs false
set_option linter.unusedVariables false
def bc (d:a8):R:=R.rat (jM d)
theorem si (a b:a8):bc (dW a b)=bc a+bc b:=by unfold bc;rw[ars,R7]
theorem A9 (a b:a8):bc (cV a b)=bc a*bc b:=by unfold bc;rw[aru,IQ]
theorem uZ (a:a8):bc (eQ a)= -bc a:=by unfold bc;rw[apw,aai]
theorem CD (a:a8) (k:Int):bc (gi a k)=bc a*ax k:=by unfold bc ax;rw[anU,IQ]
theorem vd {a b:a8} :e4 a b≤0↔bc a≤bc b:=by unfold bc;rw[Jf];exact asu
theorem SY {a b:a8} :e4 a b<0↔bc a<bc b:=by unfold bc;rw[EP];exact asv
theorem NC {a b:a8} (a6:a.ok) (aw:b.ok) (h:bc a=bc b):a=b:=by
 refine arv a6 aw ?_
 have h1:bc a≤bc b:=by rw[h];grind
 have h2:bc b≤bc a:=by rw[h];grind
 unfold bc at h1 h2
 rw[Jf]at h1 h2
 grind
theorem IU {d:a8} (h:d.m=0):bc d=0:=by unfold bc;rw[apv h];rfl
def az (n:Int):R:=R.rat (n:Int)
theorem gH (a b:Int):az (a+b)=az a+az b:=by unfold az;rw[Rat.intCast_add,R7]
theorem jo (a b:Int):az (a*b)=az a*az b:=by unfold az;rw[Rat.intCast_mul,IQ]
theorem hI (a:Int):az (-a)= -az a:=by unfold az;rw[Rat.intCast_neg,aai]
theorem dU {a b:Int} :az a≤az b↔a≤b:=by unfold az;rw[Jf];exact Rat.intCast_le_intCast
theorem l3 {a b:Int} :az a<az b↔a<b:=by unfold az;rw[EP];exact Rat.intCast_lt_intCast
theorem jO:az 0=0:=rfl
theorem e2:az 1=1:=rfl
theorem gj (n:Nat):az (2^n)=ax n:=by unfold az ax;rw[R6]
theorem kl {E:Int} {d:a8} (l:fW E d):bc d=az (d.V E)*ax E:=by unfold bc az ax;rw[kN l,IQ]
theorem oQ (k:Int):ax k*ax (-k)=1:=by rw[←g7,Int.add_right_neg];rfl
def eK (I:bQ) (x δ:R):Prop:=bc I.lo≤x∧x≤bc I.hi∧x≤bc I.lo+δ∧bc I.hi≤x+δ
theorem eK.up {I:bQ} {x δ ε:R} (h:eK I x δ) (l:δ≤ε):eK I x ε:=by unfold eK at*;grind
theorem ND {I J:bQ} {x y δ ε:R} (h:eK I x δ) (k:eK J y ε):eK (ev I J) (x+y) (δ+ε):=by
 unfold eK ev at*;simp only[si];grind
theorem Nk {I:bQ} {x δ:R} (h:eK I x δ):eK (dG I) (-x) δ:=by
 unfold eK dG at*;simp only[uZ];grind
theorem anW {I:bQ} {x δ:R} (h:eK I x δ) (k:Int):eK (g6 I k) (x*ax k) (δ*ax k):=by
 unfold eK g6 at*;simp only[CD]
 have p:=c8 k
 have a:=b0 (show 0≤x - bc I.lo by grind) (show 0≤ax k by grind)
 have b:=b0 (show 0≤bc I.hi - x by grind) (show 0≤ax k by grind)
 have c:=b0 (show 0≤bc I.lo+δ - x by grind) (show 0≤ax k by grind)
 have d:=b0 (show 0≤x+δ - bc I.hi by grind) (show 0≤ax k by grind)
 grind
theorem X0:∀(l:List a8) (m:a8),bc (eD gR m l)≤bc m∧∀y∈l,bc (eD gR m l)≤bc y
 |[],m=>⟨by show bc m≤bc m;grind,fun y h=>by cases h⟩
 |y::l,m=>by
  show bc (eD gR (if gR y m=true then y else m) l)≤bc m∧∀z∈y::l,bc (eD gR (if gR y m=true then y else m) l)≤bc z
  have cJ:=X0 l (if gR y m=true then y else m)
  have h1:bc (if gR y m=true then y else m)≤bc m∧bc (if gR y m=true then y else m)≤bc y:=by
   split
   ·rename_i h
    have:=SY.1 (of_decide_eq_true h)
    grind
   ·rename_i h
    have:¬bc y<bc m:=fun k=>h (decide_eq_true (SY.2 k))
    grind
  refine⟨by grind,fun z bp=> ?_⟩
  rcases List.mem_cons.1 bp with rfl|bp
  ·grind
  ·exact cJ.2 z bp
theorem XC:∀(l:List a8) (m:a8),bc m≤bc (eD gS m l)∧∀y∈l,bc y≤bc (eD gS m l)
 |[],m=>⟨by show bc m≤bc m;grind,fun y h=>by cases h⟩
 |y::l,m=>by
  show bc m≤bc (eD gS (if gS y m=true then y else m) l)∧∀z∈y::l,bc z≤bc (eD gS (if gS y m=true then y else m) l)
  have cJ:=XC l (if gS y m=true then y else m)
  have h1:bc m≤bc (if gS y m=true then y else m)∧bc y≤bc (if gS y m=true then y else m):=by
   split
   ·rename_i h
    have h:e4 y m>0:=of_decide_eq_true h
    have:¬bc y≤bc m:=fun k=>by have:=vd.2 k;omega
    grind
   ·rename_i h
    have h:¬e4 y m>0:=fun k=>h (decide_eq_true k)
    have:bc y≤bc m:=vd.1 (by omega)
    grind
  refine⟨by grind,fun z bp=> ?_⟩
  rcases List.mem_cons.1 bp with rfl|bp
  ·grind
  ·exact cJ.2 z bp
theorem QK {l x h c m:R} (h1:l≤x) (h2:x≤h) (a:m≤l*c) (b:m≤h*c):m≤x*c:=by
 rcases Std.le_total (a:=0) (b:=c)with k|k
 ·have:=b0 (show 0≤x - l by grind) k
  grind
 ·have:=b0 (show 0≤h - x by grind) (show 0≤-c by grind)
  grind
theorem aaj {l x h p y q m:R} (h1:l≤x) (h2:x≤h) (aq:p≤y) (aK:y≤q) (cj:m≤l*p) (ej:m≤l*q) (qB:m≤h*p) (ib:m≤h*q):m≤x*y:=by
 have aN:=QK (m:=m) (c:=l) aq aK (by grind) (by grind)
 have aX:=QK (m:=m) (c:=h) aq aK (by grind) (by grind)
 exact QK h1 h2 (by grind) (by grind)
theorem anX {l x h p y q m:R} (h1:l≤x) (h2:x≤h) (aq:p≤y) (aK:y≤q) (cj:l*p≤m) (ej:l*q≤m) (qB:h*p≤m) (ib:h*q≤m):x*y≤m:=by
 have:=aaj (m:= -m) (l:= -h) (x:= -x) (h:= -l) (by grind) (by grind) aq aK (by grind) (by grind) (by grind) (by grind)
 grind
theorem tq {a b δ ε:R} (h1: -δ≤a) (h2:a≤δ) (aq: -ε≤b) (aK:b≤ε): -(δ*ε)≤a*b∧a*b≤δ*ε:=by
 have p1:=b0 (show 0≤δ - a by grind) (show 0≤ε+b by grind)
 have cq:=b0 (show 0≤δ+a by grind) (show 0≤ε - b by grind)
 have fK:=b0 (show 0≤δ - a by grind) (show 0≤ε - b by grind)
 have Av:=b0 (show 0≤δ+a by grind) (show 0≤ε+b by grind)
 constructor<;>grind
theorem akq {x y δ ε u v:R} (aj: -1≤x∧x≤1) (hy: -1≤y∧y≤1) (h1:x - δ≤u∧u≤x+δ) (h2:y - ε≤v∧v≤y+ε):x*y - (δ+ε+δ*ε)≤u*v∧u*v≤x*y+(δ+ε+δ*ε):=by
 have a:=tq (a:=u - x) (b:=v - y) (δ:=δ) (ε:=ε) (by grind) (by grind) (by grind) (by grind)
 have b:=tq (a:=u - x) (b:=y) (δ:=δ) (ε:=1) (by grind) (by grind) (by grind) (by grind)
 have c:=tq (a:=x) (b:=v - y) (δ:=1) (ε:=ε) (by grind) (by grind) (by grind) (by grind)
 have e:u*v=x*y+(u - x)*(v - y)+(u - x)*y+x*(v - y):=by grind
 rw[e]
 constructor<;>grind
theorem NF {I J:bQ} {x y δ ε:R} (aj: -1≤x∧x≤1) (hy: -1≤y∧y≤1) (h:eK I x δ) (k:eK J y ε):eK (dp I J) (x*y) (δ+ε+δ*ε):=by
 obtain⟨cj,ej,qB,ib⟩:=h
 obtain⟨bM,aW,a5,a9⟩:=k
 have l:=X0 [cV I.lo J.hi,cV I.hi J.lo,cV I.hi J.hi] (cV I.lo J.lo)
 have g:=XC [cV I.lo J.hi,cV I.hi J.lo,cV I.hi J.hi] (cV I.lo J.lo)
 have hm:=Iw I J
 obtain⟨A,hA⟩:∃A,A=dp I J:=⟨_,rfl⟩
 have ajn:A.lo=eD gR (cV I.lo J.lo) [cV I.lo J.hi,cV I.hi J.lo,cV I.hi J.hi]:=by rw[hA];rfl
 have ajo:A.hi=eD gS (cV I.lo J.lo) [cV I.lo J.hi,cV I.hi J.lo,cV I.hi J.hi]:=by rw[hA];rfl
 rw[←hA]at hm⊢
 rw[←ajn]at l
 rw[←ajo]at g
 have dS:=l.2 (cV I.lo J.hi) (by simp)
 have s5:=l.2 (cV I.hi J.lo) (by simp)
 have qz:=l.2 (cV I.hi J.hi) (by simp)
 have cI:=l.1
 have db:=g.2 (cV I.lo J.hi) (by simp)
 have fc:=g.2 (cV I.hi J.lo) (by simp)
 have xK:=g.2 (cV I.hi J.hi) (by simp)
 have ct:=g.1
 clear l g ajn ajo hA
 simp only[A9]at cI dS s5 qz ct db fc xK
 have ay:∀z∈kH I J,x*y - (δ+ε+δ*ε)≤bc z∧bc z≤x*y+(δ+ε+δ*ε):=by
  intro z bp
  simp only[kH,List.mem_cons,List.mem_nil_iff,or_false]at bp
  rcases bp with rfl|rfl|rfl|rfl<;>rw[A9]<;>exact akq aj hy (by grind) (by grind)
 exact⟨aaj cj ej bM aW cI dS s5 qz,anX cj ej bM aW ct db fc xK,by have:=(ay _ hm.1).1;grind,by have:=(ay _ hm.2).2;grind⟩
end RV.Dr
namespace RV.Dr
open RV RR
set_option linter.unusedSimpArgs false
set_option linter.unusedVariables false
theorem uT:(0:R)<1:=by have:=sZ;have:=qs;grind
theorem arw (n:Nat) (v:Int):(v - eU n v)*2^n≤2*(v.natAbs:Int):=by
 unfold eU
 by_cases ae:a1 v.natAbs≤n
 ·rw[Nat.sub_eq_zero_of_le ae,Int.pow_zero,Int.ediv_one,Int.mul_one,Int.sub_self,Int.zero_mul];omega
 ·have h0:v.natAbs≠0:=fun e=>by rw[e,pC]at ae;omega
  have h1:=Qp h0
  have e:v - v / 2^(a1 v.natAbs - n)*2^(a1 v.natAbs - n)=v % 2^(a1 v.natAbs - n):=by
   have:=Int.emod_add_mul_ediv v (2^(a1 v.natAbs - n))
   rw[Int.mul_comm]at this;omega
  rw[e]
  have h2:=Int.emod_lt_of_pos v (tp (a1 v.natAbs - n))
  have aq:v % 2^(a1 v.natAbs - n)*2^n≤2^(a1 v.natAbs - n)*2^n:=Int.mul_le_mul_of_nonneg_right (by omega) (Int.le_of_lt (tp n))
  rw[←Int.pow_add,show a1 v.natAbs - n+n=(a1 v.natAbs - 1)+1 by omega,Int.pow_succ]at aq
  have aK:((2^(a1 v.natAbs - 1):Nat):Int)=2^(a1 v.natAbs - 1):=Int.natCast_pow 2 _
  omega
theorem NG (a b:Int):az (a - b)=az a - az b:=by rw[Int.sub_eq_add_neg,gH,hI];grind
theorem zE {a t s B:R} (h:a*t≤B) (q:t*s=1) (ps:0<s):a≤B*s:=by
 have:=b0 (show 0≤B - a*t by grind) (show 0≤s by grind)
 have e:(B - a*t)*s=B*s - a*(t*s):=by grind
 rw[e,q]at this
 grind
theorem Nl (n:Nat) (v:Int) {B:R} (h1:az v≤B) (h2: -B≤az v):az v - az (eU n v)≤(B+B)*ax (-n):=by
 have h:=arw n v
 rw[←dU,jo,jo,NG,gj]at h
 have aJ:az (v.natAbs:Int)≤B:=by
  rcases (by omega:(v.natAbs:Int)=v∨(v.natAbs:Int)= -v)with e|e
  ·rw[e];exact h1
  ·rw[e,hI];grind
 have aX:az 2=1+1:=by rw[show (2:Int)=1+1 by decide,gH,e2]
 rw[aX]at h
 have p:=c8 (-(n:Int))
 have q:=oQ (n:Int)
 exact zE (by grind) q p
theorem aak {d:a8} (ok:d.ok) (n:Nat) {A:R} (h1:bc d≤A) (h2: -A≤bc d):
 (bc (gM d n false)≤bc d∧bc d≤bc (gM d n false)+A*ax (1 - n))∧(bc d≤bc (gM d n true)∧bc (gM d n true)≤bc d+A*ax (1 - n)):=by
 have l:fW d.e d:=fun _=>Int.le_refl _
 rw[kl l,kl (l.cut n _),kl (l.cut n _),SW ok l,SW ok l]
 rw[kl l]at h1 h2
 generalize d.V d.e=v at*
 have p:=c8 d.e
 have q:=oQ d.e
 obtain⟨t,ae⟩:∃t,t=ax d.e:=⟨_,rfl⟩
 obtain⟨s,aE⟩:∃s,s=ax (-d.e):=⟨_,rfl⟩
 have ps:0<s:=aE▸c8 _
 rw[←ae,←aE]at q
 rw[←ae]at p h1 h2⊢
 have bM:az v≤A*s:=zE h1 q ps
 have aW: -(A*s)≤az v:=by
  have:=zE (a:= -az v) (B:=A) (by grind) q ps
  grind
 have d1:=anS (n:=n) v
 have d2:=aaO (n:=n) v
 rw[←dU]at d1 d2
 have aN:=Nl n v bM aW
 have aX:=Nl n (-v) (B:=A*s) (by rw[hI];grind) (by rw[hI];grind)
 have bu:h7 n false v=eU n v:=by unfold h7;rw[if_neg (by decide)]
 have bs:h7 n true v= -(eU n (-v)):=by unfold h7;rw[if_pos rfl]
 rw[bu]at d1⊢
 rw[bs,hI]at d2⊢
 rw[hI]at aX
 have cc:ax (1 - n)=ax (-n)+ax (-n):=by rw[←fk];congr 1;omega
 rw[cc]
 obtain⟨z,bp⟩:∃z,z=ax (-(n:Int)):=⟨_,rfl⟩
 rw[←bp]at aN aX⊢
 have f1:=b0 (show 0≤(A*s+A*s)*z - (az v - az (eU n v))by grind) (show 0≤t by grind)
 have f2:=b0 (show 0≤(A*s+A*s)*z - (-az v - az (eU n (-v)))by grind) (show 0≤t by grind)
 have f3:=b0 (show 0≤az v - az (eU n v)by grind) (show 0≤t by grind)
 have f4:=b0 (show 0≤-az (eU n (-v)) - az v by grind) (show 0≤t by grind)
 have ct:((A*s+A*s)*z - (az v - az (eU n v)))*t=(A*z+A*z)*(t*s) - (az v*t - az (eU n v)*t):=by grind
 have db:((A*s+A*s)*z - (-az v - az (eU n (-v))))*t=(A*z+A*z)*(t*s)+az v*t+az (eU n (-v))*t:=by grind
 rw[ct,q]at f1
 rw[db,q]at f2
 refine⟨⟨by grind,by grind⟩,by grind,by grind⟩
def bQ.ok (I:bQ):Prop:=I.lo.ok∧I.hi.ok
theorem aaS {I:bQ} {x δ A:R} {n:Nat} (ok:bQ.ok I) (h:eK I x δ) (h1:x+δ≤A) (h2: -A≤x - δ):eK (qb I n) x (δ+A*ax (1 - n)):=by
 unfold eK at*
 have d:0≤δ:=by grind
 have a:=(aak ok.1 n (A:=A) (by grind) (by grind)).1
 have b:=(aak ok.2 n (A:=A) (by grind) (by grind)).2
 unfold qb
 simp only
 refine⟨by grind,by grind,by grind,by grind⟩
theorem apy {x:a8} (ok:x.ok) (h:0≤bc x):x.neg=false:=by
 cases aj:x.neg with
 |false=>rfl
 |true=>
  exfalso
  have h0:x.m≠0:=fun e=>by have:=(ok.1 e).1;rw[this]at aj;cases aj
  have:ik x<0:=by unfold ik;rw[if_neg h0,if_pos aj];decide
  have:=XB.1 this
  have h:R.rat 0≤R.rat (jM x):=h
  rw[Jf]at h
  grind
theorem arx (n k:Nat) (aJ:1≤n):r4 n ((2:Int)^k):=by
 unfold r4
 have e:((2:Int)^k).natAbs=1*2^k:=by rw[Int.natAbs_pow,Nat.one_mul];rfl
 rw[e,pE (by decide)]
 have:a1 1=1:=by decide+kernel
 exact CC (by omega)
theorem ZA {x:a8} (ok:x.ok) {n:Nat} (aJ:1≤n) (h0:0≤bc x) (h1:bc x≤1) {y:R} (uN:0≤y) (hy:y*y=bc x):
 (0≤bc (eA x n false)∧bc (eA x n false)≤y∧y≤bc (eA x n false)+ax (3 - n))∧(y≤bc (eA x n true)∧bc (eA x n true)≤y+ax (3 - n)∧bc (eA x n true)≤1):=by
 have neg:=apy ok h0
 obtain⟨E,eO,PS,azP⟩:∃E:Int,E+1≤(x.e - gI x n) / 2∧2*E≤x.e∧E≤0:=⟨min (min ((x.e - gI x n) / 2 - 1) (x.e / 2)) 0,by omega,by omega,by omega⟩
 have c7:fW (2*E) x:=fun _=>PS
 obtain⟨⟨s1,s2,_⟩,t1,t2,t3⟩:=amm aJ eO c7 neg
 have bA:=NA aJ eO false
 have bX:=NA aJ eO true
 have rs:=Z9 aJ eO c7 neg
 rw[kl (Z8 eO false),kl (Z8 eO true)]
 rw[kl c7]at hy h1
 have awn:ax (2*E)=ax E*ax E:=by rw[←g7];congr 1;omega
 rw[awn]at hy h1
 have fq:=c8 E
 have D2:y≤1:=RR.ha (by have:=uT;grind) (by grind)
 have azj:az (2^(-E).toNat)*ax E=1:=by
  rw[gj]
  have:=oQ (-E)
  rw[show ((-E).toNat:Int)= -E by omega]
  rw[Int.neg_neg]at this;exact this
 have sS:az ((eA x n true).V E)*ax E≤1:=by
  have:=t3 (2^(-E).toNat) (Int.le_of_lt (tp _)) (arx n _ aJ) (by
   rw[←dU,jo]
   have ps:0<az (2^(-E).toNat):=by rw[gj];exact c8 _
   have q:ax E*az (2^(-E).toNat)=1:=by grind
   have bh:=zE (a:=az (x.V (2*E))*ax E) (t:=ax E) (B:=1) (by grind) q ps
   have bB:=zE bh q ps
   grind)
  rw[←dU]at this
  have:=b0 (show 0≤az (2^(-E).toNat) - az ((eA x n true).V E)by grind) (show 0≤ax E by grind)
  grind
 have y6:0≤az ((eA x n false).V E)*ax E:=by
  have VO:0≤az ((eA x n false).V E):=by rw[←jO,dU];exact s1
  exact b0 VO (by grind)
 have PT:az ((eA x n false).V E)*ax E≤y:=by
  refine RR.ha uN ?_
  rw[←dU,jo]at s2
  have:=b0 (show 0≤az (x.V (2*E)) - az ((eA x n false).V E)*az ((eA x n false).V E)by grind) (b0 (show 0≤ax E by grind) (show 0≤ax E by grind))
  grind
 have y2:y≤az ((eA x n true).V E)*ax E:=by
  have awo:0≤az ((eA x n true).V E):=by rw[←jO,dU];exact t1
  refine RR.ha (b0 awo (by grind)) ?_
  rw[←dU,jo]at t2
  have:=b0 (show 0≤az ((eA x n true).V E)*az ((eA x n true).V E) - az (x.V (2*E))by grind) (b0 (show 0≤ax E by grind) (show 0≤ax E by grind))
  grind
 obtain⟨a,a6⟩:∃a,a=ax (-(n:Int)):=⟨_,rfl⟩
 obtain⟨b,aw⟩:∃b,b=ax (-(n:Int) - 2):=⟨_,rfl⟩
 have px:0<b:=aw▸c8 _
 have azQ:a=b+b+(b+b):=by
  have aN:=fk (-(n:Int) - 2)
  have aX:=fk (-(n:Int) - 2+1)
  rw[show -(n:Int) - 2+1+1= -n by omega]at aX
  rw[a6,aw];grind
 have r0:ax (3 - n)=a+a+(a+a)+(a+a+(a+a)):=by
  have aN:=fk (-(n:Int))
  have aX:=fk (-(n:Int)+1)
  have cc:=fk (-(n:Int)+1+1)
  rw[show -(n:Int)+1+1+1=3 - n by omega]at cc
  rw[a6];grind
 have azR:a+a≤1:=by
  have aN:=fk (-(n:Int))
  have:=iG (a:= -(n:Int)+1) (b:=0) (by omega)
  rw[uY]at this
  rw[a6];grind
 have hm:=Rf x n
 rw[r0]
 rw[rs]at hy
 clear rs s1 s2 t1 t2 t3
 generalize Jq x n E=p at*
 by_cases cp:Bk x n=0
 ·rw[cp,Cu]at bA bX
  rw[cp]at hy
  have eZ:(eA x n false).V E=0:=by rw[bA];simp[h7,R2]
  have gU:(eA x n true).V E=0:=by rw[bX];simp[h7,R2]
  have KY:y*y=0*0:=by rw[hy];simp only[Int.natCast_zero,Int.mul_zero,Int.zero_mul,jO];grind
  have azS:y=0:=aaR uN (by grind) KY
  rw[eZ]at y6 PT⊢
  rw[gU]at y2 sS⊢
  rw[jO]at*
  refine⟨⟨y6,PT,by grind⟩,y2,by grind,sS⟩
 ·have cy:=SX aJ hm cp
  obtain⟨M,ayE⟩:∃M,M=Bk x n:=⟨_,rfl⟩
  rw[←ayE]at bA bX hy cp cy
  have dP:((cU M:Int) - 1)*((cU M:Int) - 1)≤4*M∧4*(M:Int)≤((cU M:Int)+1)*((cU M:Int)+1):=by
   have i1:=(oL M).1
   have i2:=(oL M).2
   have bR:((a7 M*a7 M:Nat):Int)=(a7 M:Int)*(a7 M:Int):=Int.natCast_mul _ _
   have bS:(((a7 M+1)*(a7 M+1):Nat):Int)=((a7 M:Int)+1)*((a7 M:Int)+1):=by rw[Int.natCast_mul];rfl
   have hj:((a7 M:Int)+1)*((a7 M:Int)+1)=(a7 M:Int)*(a7 M:Int)+2*(a7 M:Int)+1:=by grind
   rcases Eb M with ⟨aN,aX⟩|⟨aN,aX⟩
   ·rw[aX]
    have r5:(((2*a7 M:Nat):Int) - 1)*(((2*a7 M:Nat):Int) - 1)=4*((a7 M:Int)*(a7 M:Int)) - 4*(a7 M:Int)+1:=by grind
    have ayF:(((2*a7 M:Nat):Int)+1)*(((2*a7 M:Nat):Int)+1)=4*((a7 M:Int)*(a7 M:Int))+4*(a7 M:Int)+1:=by grind
    rw[aX]at cy
    have:=tp (n+2)
    omega
   ·rw[aX]
    have r5:(((2*a7 M+1:Nat):Int) - 1)*(((2*a7 M+1:Nat):Int) - 1)=4*((a7 M:Int)*(a7 M:Int)):=by grind
    have ayF:(((2*a7 M+1:Nat):Int)+1)*(((2*a7 M+1:Nat):Int)+1)=4*((a7 M:Int)*(a7 M:Int))+8*(a7 M:Int)+4:=by grind
    omega
  obtain⟨fw,gF⟩:=dP
  rw[←dU]at fw gF cy
  simp only[jo,gH,NG,e2]at fw gF hy
  rw[gj]at cy
  obtain⟨v,aB⟩:∃v:Int,v=(cU M:Int)*2^p:=⟨_,rfl⟩
  have ayG:0<az (2^p):=by rw[gj];exact c8 _
  have aAs:ax (n+2)≤az (cU M:Int):=by rw[show (n:Int)+2=((n+2:Nat):Int)by omega];exact cy
  have WB:az v=az (cU M:Int)*az (2^p):=by rw[aB,jo]
  rw[←aB]at bA bX
  have cf:h7 n false v=eU n v:=by unfold h7;rw[if_neg (by decide)]
  have cP:h7 n true v= -(eU n (-v)):=by unfold h7;rw[if_pos rfl]
  rw[bA,cf]at y6 PT⊢
  rw[bX,cP,hI]at y2 sS⊢
  have WC:0≤az (cU M:Int):=by have:=c8 ((n:Int)+2);grind
  have ayH:0≤az v:=by rw[WB];exact b0 WC (by grind)
  have f1:=Nl n v (B:=az v) (by grind) (by grind)
  have f2:=Nl n (-v) (B:=az v) (by rw[hI];grind) (by rw[hI];grind)
  rw[hI,←a6]at f2
  rw[←a6]at f1
  have LO:ax (n+2)*b=1:=by have:=oQ ((n:Int)+2);rw[show -((n:Int)+2)= -n - 2 by omega,←aw]at this;exact this
  rw[WB]at f1 f2
  clear bA bX cf cP aB ayH cy hm cp r0 a6 aw WB
  generalize az (eU n v)=L at*
  generalize az (eU n (-v))=H at*
  generalize az (cU M:Int)=T at*
  generalize az (2^p)=P at*
  generalize ax E=z at*
  generalize az 4*az (M:Int)=F at*
  generalize ax ((n:Int)+2)=c at*
  have iB:0<P*z:=uS ayG fq
  obtain⟨t,ae⟩:∃t,t=P*z:=⟨_,rfl⟩
  rw[←ae]at iB
  have ct:T*t - t≤y:=by
   refine RR.ha uN ?_
   have:=b0 (show 0≤F - (T - 1)*(T - 1)by grind) (b0 (show 0≤t by grind) (show 0≤t by grind))
   rw[hy,show (T*t - t)*(T*t - t)=(T - 1)*(T - 1)*(t*t)by grind,show F*(P*P)*(z*z)=F*(t*t)by grind]
   grind
  have db:y≤T*t+t:=by
   have aAt:=b0 WC (show 0≤t by grind)
   refine RR.ha (by grind) ?_
   have:=b0 (show 0≤(T+1)*(T+1) - F by grind) (b0 (show 0≤t by grind) (show 0≤t by grind))
   rw[hy,show (T*t+t)*(T*t+t)=(T+1)*(T+1)*(t*t)by grind,show F*(P*P)*(z*z)=F*(t*t)by grind]
   grind
  have fc:t≤T*t*b:=by
   have:=b0 (show 0≤T - c by grind) (b0 (show 0≤t by grind) (show 0≤b by grind))
   have e:(T - c)*(t*b)=T*t*b - t*(c*b):=by grind
   rw[e,LO]at this
   grind
  have xK:T*P*z - L*z≤(T*P*z+T*P*z)*a:=by
   have:=b0 (show 0≤(T*P+T*P)*a - (T*P - L)by grind) (show 0≤z by grind)
   grind
  have Qd: -H*z - T*P*z≤(T*P*z+T*P*z)*a:=by
   have:=b0 (show 0≤(T*P+T*P)*a - (-(T*P) - H)by grind) (show 0≤z by grind)
   grind
  have HO:T*P*z=T*t:=by rw[ae];grind
  rw[HO]at xK Qd
  have bJ:=b0 WC (show 0≤t by grind)
  generalize T*t=u at*
  have bs:u≤1+1:=by
   refine Std.not_lt.1 fun k=> ?_
   have:=b0 (show 0≤u - (1+1)by grind) (show 0≤1 - (b+b)by grind)
   grind
  have p1:=b0 (show 0≤(1+1) - u by grind) (show 0≤b by grind)
  have cq:=b0 (show 0≤(1+1) - u by grind) (show 0≤a by grind)
  refine⟨⟨y6,PT,by grind⟩,y2,by grind,sS⟩
end RV.Dr
namespace RV.Dr
open RV RR
set_option linter.unusedSimpArgs false
set_option linter.unusedVariables false
theorem apz {I:bQ} {x δ τ y:R} {n:Nat} (ok:bQ.ok I) (h:eK I x δ) (aJ:1≤n) (y6:0≤bc I.lo) (sS:bc I.hi≤1) (uN:0≤y) (hy:y*y=x)
 (h1:∀z,0≤z→z*z≤x→x≤z*z+δ→y≤z+τ) (h2:∀z,0≤z→x≤z*z→z*z≤x+δ→z≤y+τ):
 eK (tE I n) y (τ+ax (3 - n))∧0≤bc (tE I n).lo∧bc (tE I n).hi≤1:=by
 obtain⟨cj,ej,qB,ib⟩:=h
 have r:=qV y6
 have s:=qV (x:=bc I.hi) (by grind)
 have aN:=(ZA ok.1 aJ y6 (by grind) r.1 r.2).1
 have aX:=(ZA ok.2 aJ (by grind) sS s.1 s.2).2
 have bh:=h1 _ r.1 (by rw[r.2];exact cj) (by rw[r.2];exact qB)
 have bB:=h2 _ s.1 (by rw[s.2];exact ej) (by rw[s.2];exact ib)
 have c2:j4 (bc I.lo)≤y:=RR.ha uN (by rw[r.2,hy];exact cj)
 have hF:y≤j4 (bc I.hi):=RR.ha s.1 (by rw[s.2,hy];exact ej)
 unfold tE eK
 simp only
 refine⟨⟨by grind,by grind,by grind,by grind⟩,by grind,by grind⟩
theorem aaT {x δ y:R} (uN:hf≤y) (hy:y*y=x):(∀z,0≤z→z*z≤x→x≤z*z+δ→y≤z+(δ+δ))∧(∀z,0≤z→x≤z*z→z*z≤x+δ→z≤y+(δ+δ)):=by
 have p:=sZ
 have q:=qs
 constructor
 ·intro z LR eZ gU
  refine Std.not_lt.1 fun k=> ?_
  have m:=b0 (show 0≤y - z by grind) (show 0≤y+z - hf by grind)
  have gw:=uS (show 0<y - z - (δ+δ)by grind) p
  have e:(y - z - (δ+δ))*hf=(y - z)*hf - δ*(hf+hf):=by grind
  rw[e,q]at gw
  grind
 ·intro z LR eZ gU
  refine Std.not_lt.1 fun k=> ?_
  have m:=b0 (show 0≤z - y by grind) (show 0≤y+z - hf by grind)
  have gw:=uS (show 0<z - y - (δ+δ)by grind) p
  have e:(z - y - (δ+δ))*hf=(z - y)*hf - δ*(hf+hf):=by grind
  rw[e,q]at gw
  grind
theorem aaU {x δ y τ:R} (uN:0≤y) (hy:y*y=x) (t0:0≤τ) (ae:δ≤τ*τ):(∀z,0≤z→z*z≤x→x≤z*z+δ→y≤z+τ)∧(∀z,0≤z→x≤z*z→z*z≤x+δ→z≤y+τ):=by
 constructor
 ·intro z LR eZ gU
  rcases Std.le_total (a:=y) (b:=z)with k|k
  ·grind
  ·have:y - z≤τ:=RR.ha t0 (by have:=b0 (show 0≤y - z by grind) LR;grind)
   grind
 ·intro z LR eZ gU
  rcases Std.le_total (a:=z) (b:=y)with k|k
  ·grind
  ·have:z - y≤τ:=RR.ha t0 (by have:=b0 (show 0≤z - y by grind) uN;grind)
   grind
theorem R8:ax (-1)=hf:=by
 have a:=fk (-1)
 have b:=qs
 have c:=sZ
 have e:ax (-1+1)=1:=rfl
 rw[e]at a
 have z:(hf+hf)*(ax (-1) - hf)=0:=by grind
 rw[b]at z
 grind
theorem E3:eK i1 1 0:=by
 have:bc d1=1:=by
  rw[kl (E:=0) (fun _=>by show (0:Int)≤0;omega)]
  have e:d1.V 0=1:=by decide+kernel
  rw[e];show az 1*1=1;rw[e2];grind
 unfold eK i1
 simp only[this]
 grind
theorem anY {I:bQ} {n:Nat} (h:0≤bc I.lo):g0 I n=tE (g6 I (-1)) n:=by
 unfold g0
 rw[if_neg]
 intro k
 have:=XB.1 k
 have bB:bc (gi I.lo (-1))<0:=by
  show R.rat _<R.rat 0
  rw[EP];exact this
 rw[CD]at bB
 have:=b0 h (show 0≤ax (-1)by have:=c8 (-1);grind)
 grind
theorem Nm {I:bQ} {x δ τ y:R} {n:Nat} (ok:bQ.ok I) (h:eK I x δ) (aJ:1≤n) (y6:0≤bc I.lo) (sS:bc I.hi≤1+1) (uN:0≤y) (hy:y*y=hf*x)
 (h1:∀z,0≤z→z*z≤hf*x→hf*x≤z*z+hf*δ→y≤z+τ) (h2:∀z,0≤z→hf*x≤z*z→z*z≤hf*x+hf*δ→z≤y+τ):
 eK (g0 I n) y (τ+ax (3 - n))∧0≤bc (g0 I n).lo∧bc (g0 I n).hi≤1:=by
 rw[anY y6]
 have s:=anW h (-1)
 rw[R8,show x*hf=hf*x by grind,show δ*hf=hf*δ by grind]at s
 have p:=sZ
 have q:=qs
 refine apz ⟨oV ..,oV ..⟩ s aJ ?_ ?_ uN hy h1 h2
 ·unfold g6
  simp only[CD,R8]
  exact b0 y6 (by grind)
 ·unfold g6
  simp only[CD,R8]
  have:=b0 (show 0≤1+1 - bc I.hi by grind) (show 0≤hf by grind)
  grind
theorem IV {lo hi:Int} {I:bQ} (h:I.win lo hi):bQ.ok I:=⟨h.1.1,h.2.1⟩
theorem MK {I J:bQ} (h:bQ.ok I) (k:bQ.ok J):bQ.ok (ev I J):=⟨Nh h.1 k.1,Nh h.2 k.2⟩
theorem abt {c y:R} (h0:0≤y) (ay:0≤c) (hy:y*y=hf*(1+c)):hf≤y:=by
 have p:=sZ
 have q:=qs
 refine RR.ha h0 ?_
 have:=b0 ay (show 0≤hf by grind)
 have e:hf*hf*(1+1)=hf*(hf+hf):=by grind
 rw[q]at e
 rw[hy];grind
theorem apA {n:Nat} (aJ:1≤n) {τ:R} (t0:0≤τ) (ae:ax (6 - n)≤τ*τ):∀k:Nat,k≤14→
 (eK (aB n k).c (ay k) (az (k+1)*ax (3 - n))∧0≤bc (aB n k).c.lo∧bc (aB n k).c.hi≤1)∧(eK (aB n k).s (aE k) (τ+ax (3 - n))∧0≤bc (aB n k).s.lo∧bc (aB n k).s.hi≤1):=by
 have p:=sZ
 have q:=qs
 have b8:=c8 (3 - n)
 have r0:ax (6 - n)=az 8*ax (3 - n):=by
  rw[show (8:Int)=2^3 by decide,gj,←g7];congr 1;omega
 have PU:bQ.ok i1:=IV (Gc (lo:=0) (hi:=1) (by omega) (by omega))
 intro k
 induction k with
 |zero=>
  intro _
  have r:=qV (x:=hf) (by grind)
  have ew:=E3
  have aH:0≤bc i1.lo:=by unfold eK at ew;grind
  have dT:bc i1.hi≤1+1:=by unfold eK at ew;grind
  have aN:(az ((0:Nat)+1):R)=1:=e2
  have awp:hf*1=hf:=by grind
  have hfz:hf*(0:R)=0:=by grind
  have c:=aaT (x:=hf*1) (δ:=hf*0) (y:=j4 hf) (by
   have:=abt (c:=0) r.1 (by grind) (by rw[r.2];grind);exact this) (by rw[r.2];grind)
  have s:=aaU (x:=hf*1) (δ:=hf*0) (y:=j4 hf) (τ:=τ) r.1 (by rw[r.2];grind) t0 (by have:=c8 (6 - n);grind)
  refine⟨?_,Nm PU ew aJ aH dT r.1 (r.2.trans awp.symm) s.1 s.2⟩
  have:=Nm PU ew aJ aH dT r.1 (by rw[r.2];grind) c.1 c.2
  refine⟨this.1.up (by rw[aN];grind),this.2⟩
 |succ k cJ=>
  intro ad
  obtain⟨⟨cj,ej,qB⟩,-⟩:=cJ (by omega)
  obtain⟨dr,bR,ov,azT⟩:=N0 k
  have awq:bQ.ok (aB n k).c:=IV (BF (by omega) k).1
  have ew:=ND E3 cj
  have eN:=ND E3 (Nk cj)
  have r:=qV (x:=hf*(1+ay k)) (b0 (by grind) (by grind))
  have t:=qV (x:=hf*(1 - ay k)) (b0 (by grind) (by grind))
  have jF:=E3
  unfold eK at jF
  have cI:0≤bc (ev i1 (aB n k).c).lo∧bc (ev i1 (aB n k).c).hi≤1+1:=by
   unfold ev;simp only[si]
   constructor<;>grind
  have dS:0≤bc (ev i1 (dG (aB n k).c)).lo∧bc (ev i1 (dG (aB n k).c)).hi≤1+1:=by
   unfold ev dG;simp only[si,uZ]
   constructor<;>grind
  have Kw:(az (k+1):R)≤az 16:=dU.2 (by omega)
  have VP:az 16=az 8+az 8:=by rw[←gH];rfl
  have m:=b0 (show 0≤az 16 - az (k+1)by grind) (show 0≤ax (3 - n)by grind)
  have c:=aaT (x:=hf*(1+ay k)) (δ:=hf*(0+az (k+1)*ax (3 - n))) (abt r.1 dr r.2) r.2
  have ek:az ((k+1:Nat)+1)=az (k+1)+1:=by rw[←e2,←gH];rfl
  have s:=aaU (x:=hf*(1+ -ay k)) (δ:=hf*(0+az (k+1)*ax (3 - n))) (y:=j4 (hf*(1 - ay k))) (τ:=τ) t.1 (by rw[t.2];grind) t0 (by
   have gw:=b0 (show 0≤az 16*ax (3 - n) - az (k+1)*ax (3 - n)by grind) (show 0≤hf by grind)
   have e:hf*(az 16*ax (3 - n))=(hf+hf)*(az 8*ax (3 - n)):=by rw[VP];grind
   rw[q,←r0]at e
   grind)
  refine⟨?_,?_⟩
  ·have:=Nm (MK PU awq) ew aJ cI.1 cI.2 r.1 r.2 c.1 c.2
   refine⟨this.1.up ?_,this.2⟩
   rw[ek]
   have e:hf*(0+az (k+1)*ax (3 - n))+hf*(0+az (k+1)*ax (3 - n))=(hf+hf)*(az (k+1)*ax (3 - n)):=by grind
   rw[e,q];grind
  ·exact Nm (MK PU (IV (sb (BF (w:=(n:Int)) (by omega) k).1))) eN aJ dS.1 dS.2 t.1 (t.2.trans (by grind)) s.1 s.2
end RV.Dr
namespace RV.Dr
open RV RR
set_option linter.unusedSimpArgs false
set_option linter.unusedVariables false
def kD (p:dL) (z:bD) (δ:R):Prop:=eK p.c z.dc δ∧eK p.s z.de δ
theorem kD.up {p:dL} {z:bD} {δ ε:R} (h:kD p z δ) (l:δ≤ε):kD p z ε:=⟨h.1.up l,h.2.up l⟩
theorem Ix {z:bD} (h:z.jg=1):(-1≤z.dc∧z.dc≤1)∧(-1≤z.de∧z.de≤1):=by
 unfold bD.jg at h
 have a:=QX z.dc
 have b:=QX z.de
 have o:=uT
 have cj:z.dc≤1:=RR.ha (by grind) (by grind)
 have ej: -z.dc≤1:=RR.ha (by grind) (by grind)
 have bM:z.de≤1:=RR.ha (by grind) (by grind)
 have aW: -z.de≤1:=RR.ha (by grind) (by grind)
 grind
def dL.ok (p:dL):Prop:=bQ.ok p.c∧bQ.ok p.s
theorem Nn (I J:bQ):bQ.ok (dp I J):=by
 have ay:∀z∈kH I J,z.ok:=by
  intro z bp
  simp only[kH,List.mem_cons,List.mem_nil_iff,or_false]at bp
  rcases bp with rfl|rfl|rfl|rfl<;>exact oV ..
 exact⟨ay _ (Iw I J).1,ay _ (Iw I J).2⟩
theorem ZB {I:bQ} (h:bQ.ok I):bQ.ok (dG I):=⟨Eu h.2,Eu h.1⟩
theorem anZ {p q:dL} {z u:bD} {δ ε σ:R} {n:Nat} (bp:z.jg=1) (hu:u.jg=1) (h:kD p z δ) (k:kD q u ε) (d0:0≤δ) (d1:δ≤1) (b8:0≤ε) (aN:ε≤σ) (s1:σ≤1) (aJ:ax (4 - n)≤σ):
 kD (tF p q n) (z.mul u) (δ+δ+az 5*σ):=by
 have a:=Ix bp
 have b:=Ix hu
 have o:=uT
 have aAu:=b0 (show 0≤1 - δ by grind) b8
 have e0:=NF a.1 b.1 h.1 k.1
 have gw:=NF a.2 b.2 h.2 k.2
 have Aw:=NF a.2 b.1 h.2 k.1
 have Ch:=NF a.1 b.2 h.1 k.2
 have VO:=ND e0 (Nk gw)
 have O8:=ND Aw Ch
 have dN:az 5=1+1+1+1+1:=by rw[show (5:Int)=1+1+1+1+1 by decide];simp only[gH,e2]
 have awr:az 5*σ=σ+σ+σ+σ+σ:=by rw[dN];grind
 rw[awr]
 have r0:ax (4 - n)=(1+1+(1+1)+(1+1+(1+1)))*ax (1 - n):=by
  have f1:=fk (1 - n)
  have f2:=fk (1 - n+1)
  have f3:=fk (1 - n+1+1)
  rw[show (1:Int) - n+1+1+1=4 - n by omega]at f3
  grind
 have ew:=tq (a:=z.dc) (b:=u.dc) (δ:=1) (ε:=1) (by grind) (by grind) (by grind) (by grind)
 have eN:=tq (a:=z.de) (b:=u.de) (δ:=1) (ε:=1) (by grind) (by grind) (by grind) (by grind)
 have Cf:=tq (a:=z.de) (b:=u.dc) (δ:=1) (ε:=1) (by grind) (by grind) (by grind) (by grind)
 have zj:=tq (a:=z.dc) (b:=u.de) (δ:=1) (ε:=1) (by grind) (by grind) (by grind) (by grind)
 have bh:=aaS (n:=n) (A:=1+1+(1+1)+(1+1+(1+1))) (MK (Nn _ _) (ZB (Nn _ _))) VO (by grind) (by grind)
 have bB:=aaS (n:=n) (A:=1+1+(1+1)+(1+1+(1+1))) (MK (Nn _ _) (Nn _ _)) O8 (by grind) (by grind)
 rw[←r0]at bh bB
 unfold kD tF bD.mul
 simp only
 constructor
 ·rw[show z.dc*u.dc - z.de*u.de=z.dc*u.dc+ -(z.de*u.de)by grind]
  exact bh.up (by grind)
 ·rw[show z.dc*u.de+z.de*u.dc=z.de*u.dc+z.dc*u.de by grind]
  exact bB.up (by grind)
theorem SZ:kD p0 bD.one 0:=by
 refine⟨E3,?_⟩
 have:bc (⟨false,0,0⟩:a8)=0:=IU rfl
 unfold eK p0 bD.one
 simp only[this]
 grind
noncomputable def B8 (K Q:Nat):Nat→Nat→bD→bD
 |0,_,z=>z
 |k+1,q,z=>B8 K Q k (q+1) (if (K / 2^(Q - q)) % 2=1 then z.mul (un q)else z)
theorem SA {K Q:Nat} :∀(k q:Nat) (z:bD),q+k=Q+1→B8 K Q k q z=z.mul ((un Q).pow (K % 2^k))
 |0,q,z,h=>by
  rw[Nat.pow_zero,Nat.mod_one]
  exact(bD.mul_one z).symm
 |k+1,q,z,h=>by
  unfold B8
  rw[SA k (q+1) _ (by omega),Nat.mod_pow_succ,show Q - q=k by omega,Nat.add_comm,bD.pow_add,bD.pow_mul]
  have e:(un Q).pow (2^k)=un q:=by
   have:=Sz q k
   rwa [show q+k=Q by omega]at this
  rw[e]
  rcases (by omega:K / 2^k % 2=1∨K / 2^k % 2=0)with b|b
  ·rw[b,if_pos rfl,bD.assoc]
   congr 2
   exact(bD.one_mul _).symm
  ·rw[b,if_neg (by decide)]
   show _=z.mul (bD.one.mul _)
   rw[bD.one_mul]
theorem SB {K Q:Int} {n:Nat} {τ σ:R} (aJ:1≤n) (t0:0≤τ) (ae:ax (6 - n)≤τ*τ) (aE:τ+ax (3 - n)≤σ) (yV:ax (4 - n)≤σ) (ahL:az 16*ax (3 - n)≤σ) (s1:az 5*σ*az (2^12)≤1):
 ∀(k q m:Nat) {p:dL} {z:bD},3≤q→q+k≤17→m+k≤12→z.jg=1→kD p z ((az (2^m) - 1)*(az 5*σ))→kD (rT K Q n k q p) (B8 K.toNat Q.toNat k q z) ((az (2^(m+k)) - 1)*(az 5*σ))
 |0,q,m,p,z,_,_,_,bp,h=>h
 |k+1,q,m,p,z,aO,ad,hm,bp,h=>by
  have fK:=c8 (3 - n)
  have f0:0≤az 5*σ:=b0 (by rw[←jO,dU];decide) (by grind)
  have HP:1≤az (2^m):=by
   rw[←e2,dU]
   have:=tp m
   omega
  have e0:az (2^m)≤az (2^12):=by
   rw[gj,gj];exact iG (by omega)
  have aN:az (2^(m+1))=az (2^m)+az (2^m):=by
   rw[←gH];congr 1;rw[Int.pow_succ];omega
  have d0:=b0 (show 0≤az (2^m) - 1 by grind) f0
  have d1:=b0 (show 0≤az (2^12) - az (2^m)by grind) f0
  have Vv:(az (2^m) - 1)*(az 5*σ)≤1:=by grind
  have aws:1≤az (2^12):=by rw[←e2,dU];decide
  have Qe:1≤az 5:=by rw[←e2,dU];decide
  have ov:=b0 (show 0≤az (2^12) - 1 by grind) f0
  have azU:=b0 (show 0≤az 5 - 1 by grind) (show 0≤σ by grind)
  have aX:(az (2^(m+1)) - 1)*(az 5*σ)=(az (2^m) - 1)*(az 5*σ)+(az (2^m) - 1)*(az 5*σ)+az 5*σ:=by rw[aN];grind
  unfold rT B8
  rw[show m+(k+1)=m+1+k by omega]
  have aB:=apA aJ t0 ae (q - 3) (by omega)
  have azV:az ((q - 3:Nat)+1)≤az 16:=dU.2 (by omega)
  by_cases aw:(K.toNat / 2^(Q.toNat - q)) % 2=1
  ·rw[if_pos aw,if_pos aw]
   refine SB aJ t0 ae aE yV ahL s1 k (q+1) (m+1) (by omega) (by omega) (by omega) (by rw[bD.R5,bp,Jd];grind) ?_
   rw[aX]
   have HO:un q=⟨ay (q - 3),RR.aE (q - 3)⟩:=by
    obtain⟨j,rfl⟩:∃j,q=j+3:=⟨q - 3,by omega⟩
    rfl
   refine anZ (ε:=σ) bp (Jd q) h ?_ d0 Vv (by grind) (by grind) (by grind) yV
   rw[HO]
   have VP:=b0 (show 0≤az 16 - az ((q - 3:Nat)+1)by grind) (show 0≤ax (3 - n)by grind)
   exact⟨aB.1.1.up (by grind),aB.2.1.up aE⟩
  ·rw[if_neg aw,if_neg aw]
   refine SB aJ t0 ae aE yV ahL s1 k (q+1) (m+1) (by omega) (by omega) (by omega) bp (h.up ?_)
   rw[aX];grind
theorem R9 {a b:Nat} (h:a≤b):(2:Nat)^a≤2^b:=Nat.pow_le_pow_right (by decide) h
theorem apB {r n j:Nat} (ar:r≤144115188075855872) (aO:a0 r≤14) (aF:2*j+6≤n) (uz:16≤j):kD (rest (b5 r) (a0 r) n) (pt r) (ax (16 - j)):=by
 have aAv:=c8 (-(j:Int))
 have azW:ax (1 - (j:Int))=ax (-(j:Int))+ax (-(j:Int)):=by rw[←fk];congr 1;omega
 by_cases h0:r=0
 ·subst h0
  rw[yq.1,yq.2]
  show kD p0 bD.one _
  exact SZ.up (by have:=c8 (16 - j);grind)
 ·have aH:r<1152921504606846976:=by omega
  have bb:=Bi aH
  have gF:3≤a0 r:=by
   unfold a0
   rw[if_neg h0]
   have:=MJ h0
   have:2^b2 r≤2^57:=Nat.le_trans this ar
   have:=(Nat.pow_le_pow_iff_right (a:=2) (by decide)).1 this
   omega
  have b9:b5 r<2^(a0 r - 2):=by
   refine Nat.lt_of_mul_lt_mul_right (a:=2^(60 - a0 r)) ?_
   rw[bb,←Nat.pow_add,show a0 r - 2+(60 - a0 r)=58 by omega]
   exact Nat.lt_of_le_of_lt ar (by decide)
  have vL:pt r=(un (a0 r)).pow (b5 r):=by
   rw[←pZ (by omega) (b5 r),bb]
  have t6:ax (6 - n)≤ax (-(j:Int))*ax (-(j:Int)):=by rw[←g7];exact iG (by omega)
  have t3:ax (3 - n)≤ax (-(j:Int)):=iG (by omega)
  have t4:ax (4 - n)≤ax (1 - (j:Int)):=iG (by omega)
  have t7:az 16*ax (3 - n)≤ax (1 - (j:Int)):=by
   rw[show (16:Int)=2^4 by decide,gj,←g7];exact iG (by omega)
  have bq:az 5≤az (2^3):=dU.2 (by decide)
  have ov:=c8 (1 - (j:Int))
  have azX:=b0 (show 0≤az (2^3) - az 5 by grind) (show 0≤ax (1 - (j:Int))by grind)
  have VP:az (2^3)*ax (1 - (j:Int))*az (2^12)=ax (16 - j):=by
   rw[gj,gj,←g7,←g7];congr 1;omega
  have aws:1≤az (2^12):=by rw[←e2,dU];decide
  have gE:=b0 (show 0≤(az (2^3) - az 5)*ax (1 - (j:Int))by grind) (show 0≤az (2^12)by grind)
  have cI:ax (16 - j)≤1:=by rw[←uY];exact iG (by omega)
  have s1:az 5*ax (1 - (j:Int))*az (2^12)≤ax (16 - j):=by grind
  have:=SB (K:=b5 r) (Q:=a0 r) (n:=n) (τ:=ax (-(j:Int))) (σ:=ax (1 - (j:Int))) (by omega) (by grind) t6 (by grind) t4 t7 (by grind) (a0 r - 2) 3 0 (p:=p0) (z:=bD.one) (by omega) (by omega) (by omega) bD.Nj (by
   refine SZ.up ?_
   have:az (2^0)=1:=e2
   rw[this];grind)
  rw[Int.toNat_natCast,Int.toNat_natCast,SA _ _ _ (by omega),bD.one_mul,Nat.mod_eq_of_lt b9,←vL]at this
  have ek:((a0 r:Int) - 2).toNat=a0 r - 2:=by omega
  unfold rest
  rw[ek]
  refine this.up ?_
  have e0:az (2^(0+(a0 r - 2)))≤az (2^12):=by rw[gj,gj];exact iG (by omega)
  have f0:0≤az 5*ax (1 - (j:Int)):=b0 (by rw[←jO,dU];decide) (by grind)
  have:=b0 (show 0≤az (2^12) - az (2^(0+(a0 r - 2)))by grind) f0
  grind
def Hn (e:Nat) (z:bD):bD:=
 let z:=if e=1∨e=2∨e=5∨e=6 then ⟨z.de,z.dc⟩else z
 let z:=if 2≤e∧e≤5 then ⟨-z.dc,z.de⟩else z
 if 4≤e then ⟨z.dc,-z.de⟩else z
theorem NH {a:Nat} (h:a<1152921504606846976):pt a=Hn (ca a) (pt (bV a)):=by
 have he:=Bj h
 have h1:ca a % 2=0→a=ca a / 2*288230376151711744+bV a:=by intro k;unfold bV;rw[if_pos k];unfold ca at*;omega
 have h2:ca a % 2=1→a+bV a=(ca a+1) / 2*288230376151711744:=by intro k;unfold bV;rw[if_neg (by omega)];unfold ca at*;omega
 generalize ca a=e at*
 generalize bV a=r at*
 rcases (by omega:e=0∨e=1∨e=2∨e=3∨e=4∨e=5∨e=6∨e=7)with rfl|rfl|rfl|rfl|rfl|rfl|rfl|rfl
 all_goals first
  |(have k:=h1 rfl;rw[k,aah])
  |(have k:=h2 rfl;rw[arq k])
 all_goals
  generalize pt r=z
  refine bD.ext' ?_ ?_<;>simp[Hn,bD.pow,bD.mul,bD.one,bD.I,bD.Gk]<;>grind
theorem aaV {a:Nat} {w:Int} {δ:R} (h:a<1152921504606846976) (ar:kD (rest (b5 (bV a)) (a0 (bV a)) w) (pt (bV a)) δ):kD (dh a w) (pt a) δ:=by
 rw[NH h]
 unfold dh Hn
 simp only
 generalize ca a=e
 generalize rest (b5 (bV a)) (a0 (bV a)) w=p at*
 generalize pt (bV a)=z at*
 have key:∀(c:Prop) [Decidable c] (p dx:dL) (z fU:bD),kD p z δ→kD dx fU δ→kD (if c then dx else p) (if c then fU else z) δ:=by
  intro c _ p dx z fU h1 h2
  split
  ·exact h2
  ·exact h1
 have bu:=key (e=1∨e=2∨e=5∨e=6) p ⟨p.s,p.c⟩ z ⟨z.de,z.dc⟩ ar ⟨ar.2,ar.1⟩
 generalize (if e=1∨e=2∨e=5∨e=6 then (⟨p.s,p.c⟩:dL)else p)=p1 at*
 generalize (if e=1∨e=2∨e=5∨e=6 then (⟨z.de,z.dc⟩:bD)else z)=eZ at*
 have bs:=key (2≤e∧e≤5) p1 ⟨dG p1.c,p1.s⟩ eZ ⟨-eZ.dc,eZ.de⟩ bu ⟨Nk bu.1,bu.2⟩
 generalize (if 2≤e∧e≤5 then (⟨dG p1.c,p1.s⟩:dL)else p1)=cq at*
 generalize (if 2≤e∧e≤5 then (⟨-eZ.dc,eZ.de⟩:bD)else eZ)=gU at*
 exact key (4≤e) cq ⟨cq.c,dG cq.s⟩ gU ⟨gU.dc,-gU.de⟩ bs ⟨bs.1,Nk bs.2⟩
theorem NI {a n j:Nat} (h:a<1152921504606846976) (aO:a0 (bV a)≤14) (aF:2*j+6≤n) (uz:16≤j):kD (dh a n) (pt a) (ax (16 - j)):=
 aaV h (apB (CV a) aO aF uz)
end RV.Dr
namespace RV.Dr
open RV RR
set_option linter.unusedSimpArgs false
set_option linter.unusedVariables false
set_option maxRecDepth 100000
def B9 (v:Nat):Nat→Bool
 |0=>true
 |j+1=>Nat.ble 2 ((v / 2^(256 - 24*(j+1))+1) % 16777216) && B9 v j
def y7:List (Nat×Nat):=[
 (81877371507464127617551201542979628307507432471243237061821853600756754782485,81877371507464127617551201542979628307507432471243237061821853600756754782485),
 (106977941273076885255401814408341967549158484705964476431625176369167556163398,44311714150060931561488076157189893527193699149339307236362825417981466611568),
 (113567176711097047325463768913859956330885371583230639589751637675741685910299,22589915976228276810931329007774019079103816782282772219569592289057374999743),
 (115234518678441148755077188541558550353083861527852106080951951399069052281697,11349609459827025386315054981497478700107540844022747970091458731335977254559),
 (115652612594735261630533212038080604071180833771132144218250487545714189690147,5681648524387955636478685845531689532533956344726492829850228781285907570647),
 (115757214824910463240241786217277123290913947822486683059320394325390740621288,2841680123118429179042206312730952958971823825043980564818000535596730057149),
 (115783370305955014316777807934221279643280619838252308828686504167567378588295,1420947056259223887622005787266528674645586023666841756453661507923851838400),
 (115789909483959279675297897520221195330071915391298345269851605683448755368793,710486902844773586087001815982426020273464248308757282291554189327087545694),
 (115791544297694671672312813634469512954494945145319019660330917306301005945095,355245123273584054955660074806873547895585988765475658249616332717393059455),
 (115791953002330670965576878911025023205077572892285116562727235753797976646712,177622770618560500788250455519631949866975377576964607859767826767188282242),
 (115792055178564805337587911453719191806704615442459411307051627393931309538222,88811411432012835054704271980476344794564024588133381836921961168012725810),
 (115792080722628034841334411734115293143326779353352816428150354406618894983668,44405708981348350781778236820611868195108407300371530322216200125730338270)]
def Ca:List (Nat×Nat)→Nat→Nat→Bool
 |[],_,_=>true
 |(C,S)::l,X,Y=>Ca l X Y && (Nat.ble (Y*S) (X*C) && (B9 ((X*C - Y*S) / 2^256) 8 && (B9 ((X*S+Y*C) / 2^256) 8 && Ca l ((X*C - Y*S) / 2^256) ((X*S+Y*C) / 2^256))))
theorem apC:Ca y7 (2^256) 0=true:=by decide+kernel
def ahM (a b:Nat×Nat):Bool:=Nat.ble (b.1*b.1) ((2^256+a.1)*2^255) && (Nat.ble ((2^256+a.1+2)*2^255) ((b.1+2)*(b.1+2)) && (Nat.ble (b.2*b.2+2^255*(a.1+2)) (2^256*2^255) && Nat.ble (2^256*2^255) ((b.2+4096)*(b.2+4096)+2^255*a.1)))
def gq (i:Nat):Nat×Nat:=y7.getD i (0,0)
theorem amp:Nat.ble ((gq 0).1*(gq 0).1) (2^256*2^255)=true∧Nat.ble (2^256*2^255) (((gq 0).1+2)*((gq 0).1+2))=true∧(gq 0).2=(gq 0).1:=by decide+kernel
theorem an0:∀i,i<11→ahM (gq i) (gq (i+1))=true:=by decide+kernel
theorem apD:y7.length=12:=by decide+kernel
def oA (x:R) (V e:Nat):Prop:=az V≤x*ax 256+az e∧x*ax 256≤az V+az e
def j1 (x:R):Prop:=∀n:Nat,n≤160→∀z:Int,az z+ax (-49)≤x*ax n∨x*ax n+ax (-49)≤az z
theorem aaW {v:Nat} :∀{k j:Nat},B9 v k=true→j<k→2≤(v / 2^(256 - 24*(j+1))+1) % 16777216
 |k+1,j,h,aF=>by
  simp only[B9,Bool.and_eq_true]at h
  by_cases e:j=k
  ·subst e;exact Nat.le_of_ble_eq_true h.1
  ·exact aaW h.2 (by omega)
theorem aaX {x:R} {V:Nat} (h:oA x V 67108864) (k:B9 V 8=true):j1 x:=by
 intro n aJ z
 obtain⟨j,aF,GR,KM⟩:∃j,j<8∧n≤24*j∧24*j<n+24:=⟨(n+23) / 24,by omega,by omega,by omega⟩
 have aw:=aaW k aF
 obtain⟨s,aE⟩:∃s,s=256 - 24*(j+1):=⟨_,rfl⟩
 rw[←aE]at aw
 obtain⟨b,VQ⟩:∃b,b=V / 2^s:=⟨_,rfl⟩
 rw[←VQ]at aw
 have v1:b*2^s≤V:=by rw[VQ];exact Nat.div_mul_le_self V _
 have v2:V<(b+1)*2^s:=by
  rw[VQ,Nat.add_mul,Nat.one_mul]
  have:=Nat.div_add_mod V (2^s)
  have m:=Nat.mod_lt V (Nat.two_pow_pos s)
  rw[Nat.mul_comm]at this
  omega
 have cf:az b*ax s≤az V:=by
  rw[←gj,←jo,dU];exact_mod_cast v1
 have cP:az V≤(az b+1)*ax s:=by
  rw[←gj,←e2,←gH,←jo,dU]
  have:V≤(b+1)*2^s:=Nat.le_of_lt v2
  exact_mod_cast this
 obtain⟨h1,h2⟩:=h
 have es:ax 256=ax (24*j+24)*ax s:=by rw[←g7];congr 1;omega
 rw[es]at h1 h2
 have ps:=c8 (-(s:Int))
 have LH:=oQ s
 have aAw:az (67108864:Nat)*ax (-(s:Int))≤ax (-2):=by
  have:((67108864:Nat):Int)=2^26:=by decide
  rw[this,gj,←g7];exact iG (by omega)
 have bu:x*ax (24*j+24)≤az b+1+ax (-2):=by
  have:=zE (a:=x*ax (24*j+24)) (t:=ax s) (s:=ax (-(s:Int))) (B:=(az b+1)*ax s+az (67108864:Nat)) (by grind) LH ps
  have e:((az b+1)*ax s+az (67108864:Nat))*ax (-(s:Int))=(az b+1)*(ax s*ax (-(s:Int)))+az (67108864:Nat)*ax (-(s:Int)):=by grind
  rw[e,LH]at this
  grind
 have bs:az b≤x*ax (24*j+24)+ax (-2):=by
  have:=zE (a:=az b - x*ax (24*j+24)) (t:=ax s) (s:=ax (-(s:Int))) (B:=az (67108864:Nat)) (by grind) LH ps
  grind
 obtain⟨d,aD⟩:∃d:Nat,d=24*j+24 - n:=⟨_,rfl⟩
 have Ck:ax (24*j+24)=ax n*ax d:=by rw[←g7];congr 1;omega
 have Qf:=c8 d
 have uJ:ax (-49)*ax d≤ax (-2):=by rw[←g7];exact iG (by omega)
 rcases Std.le_total (a:=az z+ax (-49)) (b:=x*ax n)with c|c
 ·exact .inl c
 rcases Std.le_total (a:=x*ax n+ax (-49)) (b:=az z)with c'|c'
 ·exact .inr c'
 exfalso
 have e0:=b0 (show 0≤az z+ax (-49) - x*ax n by grind) (show 0≤ax d by grind)
 have gw:=b0 (show 0≤x*ax n+ax (-49) - az z by grind) (show 0≤ax d by grind)
 have s7:az z*ax d=az (z*2^d):=by rw[jo,gj]
 have bh:x*ax (24*j+24)≤az (z*2^d)+ax (-2):=by rw[Ck,←s7];grind
 have bB:az (z*2^d)≤x*ax (24*j+24)+ax (-2):=by rw[Ck,←s7];grind
 have aX:ax (-2)+ax (-2)=ax (-1):=(fk (-2)).symm
 have aN:ax (-1)+ax (-1)=1:=(fk (-1)).symm
 have p1:=c8 (-1)
 have cI:az b<az (z*2^d)+1:=by grind
 have dS:az (z*2^d)<az b+1+1:=by grind
 rw[←e2,←gH,l3]at cI
 rw[←e2,←gH,←gH,l3]at dS
 have ajp:(16777216:Int)∣z*2^d:=by
  refine Int.dvd_trans ?_ (Int.dvd_mul_left z (2^d))
  exact CC (a:=24) (by omega)
 omega
end RV.Dr
namespace RV.Dr
open RV RR
set_option linter.unusedSimpArgs false
set_option linter.unusedVariables false
set_option maxRecDepth 100000
theorem oR {a b:Nat} :az (a:Int)≤az (b:Int)↔a≤b:=by rw[dU];omega
theorem jm (a b:Nat):az ((a+b:Nat):Int)=az a+az b:=by rw[Int.natCast_add,gH]
theorem jP (a b:Nat):az ((a*b:Nat):Int)=az a*az b:=by rw[Int.natCast_mul,jo]
theorem iZ (n:Nat):az ((2^n:Nat):Int)=ax n:=by rw[Int.natCast_pow];exact gj n
theorem oN:az ((1:Nat):Int)=1:=rfl
theorem aal {a b:Nat} (h:b≤a):az ((a - b:Nat):Int)=az a - az b:=by rw[Int.natCast_sub h,NG]
theorem Sb (n:Nat):0≤ax n:=by have:=c8 n;grind
theorem aeA:ax 255=hf*ax 256:=by
 have b:ax 256=ax 255+ax 255:=fk 255
 have c:=qs
 have:hf*(ax 255+ax 255)=(hf+hf)*ax 255:=by grind
 rw[b,this,c];grind
theorem atB:ax 256*ax 255=hf*(ax 256*ax 256):=by rw[aeA];grind
theorem DL:∀i:Nat,i≤11→(az (gq i).1≤ay i*ax 256∧ay i*ax 256≤az (gq i).1+az 2)∧(az (gq i).2≤RR.aE i*ax 256∧RR.aE i*ax 256≤az (gq i).2+az 4096)
 |0,_=>by
  obtain⟨f1,f2,f3⟩:=amp
  have f1:=Nat.le_of_ble_eq_true f1
  have f2:=Nat.le_of_ble_eq_true f2
  rw[f3]
  generalize (gq 0).1=C at*
  rw[←oR,jP,jP,iZ,iZ]at f1
  rw[←oR,jP,jP,iZ,iZ,jm]at f2
  have f1:az C*az C≤ax 256*ax 255:=f1
  have f2:ax 256*ax 255≤(az C+az 2)*(az C+az 2):=f2
  have r:=qV (x:=hf) (by have:=sZ;grind)
  have e:ay 0*ay 0=hf:=r.2
  have h0:0≤ay 0:=r.1
  have T:=Sb 256
  have aX:(ay 0*ax 256)*(ay 0*ax 256)=ax 256*ax 255:=by rw[atB,←e];grind
  have aAx:0≤az C:=by rw[←jO,dU];omega
  have iz:=b0 h0 T
  have bh:az C≤ay 0*ax 256:=RR.ha iz (by rw[aX];exact f1)
  have bB:ay 0*ax 256≤az C+az 2:=RR.ha (by have:0≤az 2:=(by rw[←jO,dU];decide);grind) (by rw[aX];exact f2)
  have l:az 2≤az 4096:=dU.2 (by decide)
  have awt:RR.aE 0=ay 0:=rfl
  rw[awt]
  exact⟨⟨bh,bB⟩,bh,by grind⟩
 |i+1,hi=>by
  obtain⟨⟨cj,ej⟩,-⟩:=DL i (by omega)
  have st:=an0 i (by omega)
  unfold ahM at st
  simp only[Bool.and_eq_true]at st
  obtain⟨f1,f2,f3,f4⟩:=st
  have f1:=Nat.le_of_ble_eq_true f1
  have f2:=Nat.le_of_ble_eq_true f2
  have f3:=Nat.le_of_ble_eq_true f3
  have f4:=Nat.le_of_ble_eq_true f4
  generalize (gq i).1=C at*
  generalize (gq (i+1)).1=ayI at*
  generalize (gq (i+1)).2=ayJ at*
  rw[←oR]at f1 f2 f3 f4
  simp only[jP,jm,iZ]at f1 f2 f3 f4
  have eN:((2:Nat):Int)=2:=rfl
  have zj:((4096:Nat):Int)=4096:=rfl
  have WD:((256:Nat):Int)=256:=rfl
  have DX:((255:Nat):Int)=255:=rfl
  rw[DX,WD]at f1 f2
  rw[DX,WD]at f3 f4
  rw[eN]at f2 f3
  rw[zj]at f4
  have r:=N0 i
  have z:=sZ
  have rc:=qV (x:=hf*(1+ay i)) (b0 (by grind) (by grind))
  have rs:=qV (x:=hf*(1 - ay i)) (b0 (by grind) (by grind))
  have qH:ay (i+1)*ay (i+1)=hf*(1+ay i):=rc.2
  have es:RR.aE (i+1)*RR.aE (i+1)=hf*(1 - ay i):=rs.2
  have dO:0≤ay (i+1):=rc.1
  have KQ:0≤RR.aE (i+1):=rs.1
  have T:=Sb 256
  rw[WD]at T
  rw[aeA]at f1 f2 f3 f4
  have ahN:(ay (i+1)*ax 256)*(ay (i+1)*ax 256)=hf*ax 256*(ax 256+ay i*ax 256):=by
   have:(ay (i+1)*ax 256)*(ay (i+1)*ax 256)=(ay (i+1)*ay (i+1))*(ax 256*ax 256):=by grind
   rw[this,qH];grind
  have ahO:(RR.aE (i+1)*ax 256)*(RR.aE (i+1)*ax 256)=hf*ax 256*(ax 256 - ay i*ax 256):=by
   have:(RR.aE (i+1)*ax 256)*(RR.aE (i+1)*ax 256)=(RR.aE (i+1)*RR.aE (i+1))*(ax 256*ax 256):=by grind
   rw[this,es];grind
  have cy:0≤hf*ax 256:=b0 (by grind) T
  have e0:=b0 cy (show 0≤ay i*ax 256 - az C by grind)
  have gw:=b0 cy (show 0≤az C+az 2 - ay i*ax 256 by grind)
  have g:∀k:Int,0≤k→0≤az k:=fun k ad=>by rw[←jO,dU];exact ad
  have ct:=g ayI (by omega)
  have db:=g ayJ (by omega)
  have fc:=g 2 (by omega)
  have xK:=g 4096 (by omega)
  refine⟨⟨RR.ha (b0 dO T) ?_,RR.ha (by grind) ?_⟩,RR.ha (b0 KQ T) ?_,RR.ha (by grind) ?_⟩
  ·rw[ahN];grind
  ·rw[ahN];grind
  ·rw[ahO];grind
  ·rw[ahO];grind
theorem Np {x c:R} {X C e f:Nat} (aj: -1≤x∧x≤1) (ay: -1≤c∧c≤1) (h:oA x X e) (k:oA c C f):
 az X*az C≤x*c*(ax 256*ax 256)+(az e*ax 256+ax 256*az f+az e*az f)∧x*c*(ax 256*ax 256)≤az X*az C+(az e*ax 256+ax 256*az f+az e*az f):=by
 obtain⟨h1,h2⟩:=h
 obtain⟨bh,bB⟩:=k
 have T:=Sb 256
 have T:0≤ax 256:=T
 generalize ax 256=t at*
 have b8:0≤az e:=by rw[←jO,dU];omega
 have f0:0≤az f:=by rw[←jO,dU];omega
 have bM:=tq (a:=x) (b:=t) (δ:=1) (ε:=t) (by grind) (by grind) (by grind) (by grind)
 have aW:=tq (a:=c) (b:=t) (δ:=1) (ε:=t) (by grind) (by grind) (by grind) (by grind)
 have p1:=tq (a:=az X - x*t) (b:=az C - c*t) (δ:=az e) (ε:=az f) (by grind) (by grind) (by grind) (by grind)
 have cq:=tq (a:=az X - x*t) (b:=c*t) (δ:=az e) (ε:=t) (by grind) (by grind) (by grind) (by grind)
 have fK:=tq (a:=x*t) (b:=az C - c*t) (δ:=t) (ε:=az f) (by grind) (by grind) (by grind) (by grind)
 have e:az X*az C=x*c*(t*t)+(az X - x*t)*(az C - c*t)+(az X - x*t)*(c*t)+(x*t)*(az C - c*t):=by grind
 rw[e]
 constructor<;>grind
theorem aaY {x:R} {N e:Nat} {E:R} (h1:az N≤x*(ax 256*ax 256)+E) (h2:x*(ax 256*ax 256)≤az N+E) (eO:E+ax 256≤az e*ax 256):oA x (N / 2^256) e:=by
 have a:=Nat.div_add_mod N (2^256)
 have b:=Nat.mod_lt N (Nat.two_pow_pos 256)
 obtain⟨q,aO⟩:∃q,q=N / 2^256:=⟨_,rfl⟩
 rw[←aO]at a⊢
 have bh:q*2^256≤N:=by rw[Nat.mul_comm];omega
 have bB:N≤q*2^256+2^256:=by rw[Nat.mul_comm];omega
 rw[←oR,jP,iZ]at bh
 rw[←oR,jm,jP,iZ]at bB
 have bh:az q*ax 256≤az N:=bh
 have bB:az N≤az q*ax 256+ax 256:=bB
 have T:0<ax 256:=c8 256
 have lR:=oQ 256
 have qI:=c8 (-256)
 unfold oA
 generalize ax 256=t at*
 generalize ax (-256)=s at*
 have z:∀{a b:R},a*t≤b*t→a≤b:=fun {a b} h=>by
  have:=zE h lR qI
  rw[show b*t*s=b*(t*s)by grind,lR]at this;grind
 clear a b aO lR qI
 exact⟨z (by grind),z (by grind)⟩
theorem abu {x:R} {V e e':Nat} (h:oA x V e) (l:e≤e'):oA x V e':=by
 obtain⟨h1,h2⟩:=h
 have:=oR.2 l
 exact⟨by grind,by grind⟩
theorem ary {x y:R} {e f:Nat} (he:e≤67108864) (hf:f≤4096) (e':Nat) (eO:e'=e+e+8200):(az e*ax 256+ax 256*az f+az e*az f)+(az e*ax 256+ax 256*az f+az e*az f)+ax 256≤az e'*ax 256:=by
 have f1:az f≤az (4096:Nat):=oR.2 hf
 have aN:az e≤az (67108864:Nat):=oR.2 he
 have b8:0≤az e:=by rw[←jO,dU];omega
 have f0:0≤az f:=by rw[←jO,dU];omega
 have T:0<ax 256:=c8 256
 have p1:=b0 b8 (show 0≤az (4096:Nat) - az f by grind)
 have cq:=b0 (show 0≤az (67108864:Nat) - az e by grind) (show 0≤az (4096:Nat)by grind)
 have fK:=b0 (show 0≤az (4096:Nat) - az f by grind) (show 0≤ax 256 by grind)
 have c:az (67108864:Nat)*az (4096:Nat)≤ax 256:=by
  rw[←jP,←show az ((2^256:Nat):Int)=ax 256 from iZ 256,oR];decide
 rw[eO]
 simp only[jm]
 have awu:az (8200:Nat)=az (4096:Nat)+az (4096:Nat)+az (8:Nat):=by rw[←jm,←jm]
 have r0:az (8:Nat)=1+1+(1+1)+(1+1+(1+1)):=by
  have h2:az (2:Nat)=1+1:=by rw[←oN,←jm]
  have aK:az (4:Nat)=1+1+(1+1):=by rw[←h2,←jm]
  rw[←aK,←jm]
 rw[awu,r0]
 grind
theorem ZC {q e e' X Y:Nat} {z:bD} (aO:3≤q) (jZ:q≤14) (bp:z.jg=1) (ae:Ca (y7.drop (q - 3)) X Y=true) (aj:oA z.dc X e) (hy:oA z.de Y e) (he:e≤67108864) (eO:e'=e+e+8200):
 Ca (y7.drop (q+1 - 3)) X Y=true∧B9 ((X*(gq (q - 3)).1 - Y*(gq (q - 3)).2) / 2^256) 8=true∧B9 ((X*(gq (q - 3)).2+Y*(gq (q - 3)).1) / 2^256) 8=true∧
 oA (z.mul (un q)).dc ((X*(gq (q - 3)).1 - Y*(gq (q - 3)).2) / 2^256) e'∧oA (z.mul (un q)).de ((X*(gq (q - 3)).2+Y*(gq (q - 3)).1) / 2^256) e'∧
 Ca (y7.drop (q+1 - 3)) ((X*(gq (q - 3)).1 - Y*(gq (q - 3)).2) / 2^256) ((X*(gq (q - 3)).2+Y*(gq (q - 3)).1) / 2^256)=true:=by
 have aH:q - 3<y7.length:=by rw[apD];omega
 have aD:y7.drop (q - 3)=gq (q - 3)::y7.drop (q+1 - 3):=by
  rw[List.drop_eq_getElem_cons aH,show q+1 - 3=q - 3+1 by omega]
  unfold gq
  rw[List.getD_eq_getElem?_getD,List.getElem?_eq_getElem aH];rfl
 have a6:=DL (q - 3) (by omega)
 have HO:un q=⟨ay (q - 3),RR.aE (q - 3)⟩:=by
  obtain⟨j,rfl⟩:∃j,q=j+3:=⟨q - 3,by omega⟩
  rfl
 have Lk:=Ix (Jd q)
 have PV:=Ix bp
 rw[aD]at ae
 rw[HO]at Lk⊢
 generalize gq (q - 3)=LQ at*
 obtain⟨C,S⟩:=LQ
 simp only[Ca,Bool.and_eq_true]at ae
 obtain⟨t1,t2,t3,t4,t5⟩:=ae
 have t2:=Nat.le_of_ble_eq_true t2
 generalize ay (q - 3)=c at*
 generalize RR.aE (q - 3)=s at*
 simp only at*
 obtain⟨⟨bR,bS⟩,s1,s2⟩:=a6
 have Vd:az 2≤az 4096:=dU.2 (by decide)
 have ac:oA c C 4096:=⟨by have:0≤az ((4096:Nat):Int):=(by rw[←jO,dU];decide);grind,by show _≤_+az 4096;grind⟩
 have ajq:oA s S 4096:=⟨by have:0≤az ((4096:Nat):Int):=(by rw[←jO,dU];decide);grind,by show _≤_+az 4096;grind⟩
 have e0:=Np PV.1 Lk.1 aj ac
 have gw:=Np PV.2 Lk.2 hy ajq
 have Aw:=Np PV.1 Lk.2 aj ajq
 have Ch:=Np PV.2 Lk.1 hy ac
 have ca:=ary (x:=c) (y:=s) he (Nat.le_refl 4096) e' eO
 generalize az e*ax 256+ax 256*az (4096:Nat)+az e*az (4096:Nat)=E at*
 refine⟨t1,t3,t4,?_,?_,t5⟩
 ·refine aaY (E:=E+E) ?_ ?_ ca<;>rw[aal t2,jP,jP]<;>simp only[bD.mul]<;>grind
 ·refine aaY (E:=E+E) ?_ ?_ ca<;>rw[jm,jP,jP]<;>simp only[bD.mul]<;>grind
def Da (z:bD):Prop:=j1 z.dc∧j1 z.de
theorem apE {K Q:Nat} (b9:K % 2=1) (cw:Q≤14):∀(k q m e:Nat) (X Y:Nat) (z:bD),3≤q→q+(k+1)=Q+1→m+k≤11→e≤(2^m - 1)*8200→Ca (y7.drop (q - 3)) X Y=true→oA z.dc X e→oA z.de Y e→z.jg=1→Da (B8 K Q (k+1) q z):=by
 intro k
 induction k with
 |zero=>
  intro q m e X Y z aO awv hm he ae aj hy bp
  obtain⟨h1,h2,aq,aK,aG,-⟩:=ZC aO (by omega) bp ae aj hy (e':=e+e+8200) (by have:=R9 (show m≤11 by omega);omega) rfl
  have aw:K / 2^(Q - q) % 2=1:=by rw[show Q - q=0 by omega,Nat.pow_zero,Nat.div_one];exact b9
  unfold B8
  rw[if_pos aw]
  show Da (z.mul (un q))
  have mD:=R9 (show m≤11 by omega)
  have l:e+e+8200≤67108864:=by omega
  exact⟨aaX (abu aK l) h2,aaX (abu aG l) aq⟩
 |succ k cJ=>
  intro q m e X Y z aO awv hm he ae aj hy bp
  obtain⟨h1,h2,aq,aK,aG,aM⟩:=ZC aO (by omega) bp ae aj hy (e':=e+e+8200) (by have:=R9 (show m≤11 by omega);omega) rfl
  unfold B8
  by_cases aw:K / 2^(Q - q) % 2=1
  ·rw[if_pos aw]
   refine cJ (q+1) (m+1) (e+e+8200) _ _ _ (by omega) (by omega) (by omega) ?_ aM aK aG (by rw[bD.R5,bp,Jd];grind)
   rw[Nat.pow_succ]
   have:=Nat.two_pow_pos m
   omega
  ·rw[if_neg aw]
   refine cJ (q+1) (m+1) e X Y z (by omega) (by omega) (by omega) ?_ h1 aj hy bp
   rw[Nat.pow_succ]
   have:=Nat.two_pow_pos m
   omega
theorem an1 {r:Nat} (ar:r≤144115188075855872) (h0:r≠0) (aO:a0 r≤14):Da (pt r):=by
 have aH:r<1152921504606846976:=by omega
 have bb:=Bi aH
 have gF:3≤a0 r:=by
  unfold a0
  rw[if_neg h0]
  have:=MJ h0
  have:2^b2 r≤2^57:=Nat.le_trans this ar
  have:=(Nat.pow_le_pow_iff_right (a:=2) (by decide)).1 this
  omega
 have b9:b5 r<2^(a0 r - 2):=by
  refine Nat.lt_of_mul_lt_mul_right (a:=2^(60 - a0 r)) ?_
  rw[bb,←Nat.pow_add,show a0 r - 2+(60 - a0 r)=58 by omega]
  exact Nat.lt_of_le_of_lt ar (by decide)
 have vL:pt r=(un (a0 r)).pow (b5 r):=by
  rw[←pZ (by omega) (b5 r),bb]
 have odd:b5 r % 2=1:=(jN h0).2
 have one:az ((2^256:Nat):Int)=ax 256:=iZ 256
 have h:=apE (K:=b5 r) (Q:=a0 r) odd aO (a0 r - 3) 3 0 0 (2^256) 0 bD.one (by omega) (by omega) (by omega) (by omega) (by rw[Nat.sub_self,List.drop_zero];exact apC)
  (by
   unfold oA bD.one
   have:az ((0:Nat):Int)=0:=rfl
   rw[one,this];grind)
  (by
   unfold oA bD.one
   have:az ((0:Nat):Int)=0:=rfl
   rw[this];grind) bD.Nj
 rw[show a0 r - 3+1=a0 r - 2 by omega,SA _ _ _ (by omega),bD.one_mul,Nat.mod_eq_of_lt b9,←vL]at h
 exact h
end RV.Dr
namespace RV.Dr
open RV RR
set_option linter.unusedSimpArgs false
set_option linter.unusedVariables false
set_option maxRecDepth 100000
theorem ZD {z:Int} {x:R} {E:Int} (h:x=az z*ax (-E)):x*ax E=az z:=by
 have:=oQ E
 rw[h,show az z*ax (-E)*ax E=az z*(ax E*ax (-E))by grind,this];grind
theorem XD {x:a8} (ok:x.ok) (n:Nat):(kI x n).ok∧fW (-n) (kI x n)∧∃z:Int,bc (kI x n)=az z*ax (-n)∧az z≤bc x*ax n∧bc x*ax n<az z+1:=by
 unfold kI
 by_cases h:0≤x.e+n
 ·rw[if_pos h]
  have l:fW (-n) x:=fun _=>by omega
  refine⟨ok,l,x.V (-n),kl l,?_⟩
  have e:=ZD (kl l)
  rw[e]
  have:=uT
  grind
 ·rw[if_neg h]
  refine⟨oV ..,kg (Int.le_refl _),?_⟩
  obtain⟨k,ad⟩:∃k,k=(-x.e - n).toNat:=⟨_,rfl⟩
  rw[←ad]
  have bh:1≤k:=by omega
  have aB:bc x*ax n=az (dQ x.neg x.m)*ax (-(k:Int)):=by
   have l:fW x.e x:=fun _=>Int.le_refl _
   rw[kl l]
   have:x.V x.e=dQ x.neg x.m:=by unfold a8.V;rw[Int.sub_self];simp
   rw[this,show az (dQ x.neg x.m)*ax x.e*ax n=az (dQ x.neg x.m)*(ax x.e*ax n)by grind,←g7]
   congr 2;omega
  obtain⟨z,bp⟩:∃z:Int,z=dQ x.neg (x.m / 2^k+(if x.neg=true then 1 else 0)):=⟨_,rfl⟩
  have aN:bc (mk x.neg (x.m / 2^k+(if x.neg=true then 1 else 0)) (-n))=az z*ax (-n):=by
   have:=su (E:= -n) x.neg (x.m / 2^k+(if x.neg=true then 1 else 0)) (Int.le_refl (-(n:Int)))
   rw[kl (E:= -n) (kg (Int.le_refl _)),this,bp,Int.sub_self];simp
  refine⟨z,aN,?_⟩
  rw[aB]
  have ayK:=c8 (k:Int)
  have ahP:=c8 (-(k:Int))
  have ajr:=oQ (k:Int)
  have key:z*2^k≤dQ x.neg x.m∧dQ x.neg x.m<(z+1)*2^k:=by
   have aD:=Nat.div_add_mod x.m (2^k)
   have hm:=Nat.mod_lt x.m (Nat.two_pow_pos k)
   have c:((2^k:Nat):Int)=2^k:=Int.natCast_pow 2 k
   have lu:((2:Int)^k)*((x.m / 2^k:Nat):Int)+((x.m % 2^k:Nat):Int)=x.m:=by rw[←c];exact_mod_cast aD
   cases aJ:x.neg with
   |false=>
    rw[aJ]at bp
    have VR:z=((x.m / 2^k:Nat):Int):=by rw[bp];simp[dQ]
    rw[VR]
    unfold dQ
    simp only[Bool.false_eq_true,if_false]
    rw[Int.mul_comm,Int.add_mul,Int.one_mul,Int.mul_comm ((x.m / 2^k:Nat):Int)]
    omega
   |true=>
    rw[aJ]at bp
    have h0:x.m≠0:=fun e=>by have:=(ok.1 e).1;rw[this]at aJ;cases aJ
    have bz:=ok.2 h0
    have ar:x.m % 2^k≠0:=fun e=>by
     have:=Nat.mod_mod_of_dvd x.m (show 2∣2^k from ⟨2^(k - 1),by rw[←Nat.pow_succ'];congr 1;omega⟩)
     rw[e]at this
     omega
    have VR:z= -(((x.m / 2^k:Nat):Int)+1):=by rw[bp];simp[dQ]
    rw[VR]
    unfold dQ
    simp only[if_true]
    have aX: -(((x.m / 2^k:Nat):Int)+1)*2^k= -(2^k*((x.m / 2^k:Nat):Int)+2^k):=by grind
    have cc:(-(((x.m / 2^k:Nat):Int)+1)+1)*2^k= -(2^k*((x.m / 2^k:Nat):Int)):=by grind
    rw[aX,cc]
    omega
  obtain⟨D2,LS⟩:=key
  rw[←dU,jo,gj]at D2
  rw[←l3,jo,gj,gH,e2]at LS
  constructor
  ·exact zE D2 ajr ahP
  ·have:=uS (show 0<(az z+1)*ax k - az (dQ x.neg x.m)by grind) ahP
   have e:((az z+1)*ax k - az (dQ x.neg x.m))*ax (-(k:Int))=(az z+1)*(ax k*ax (-(k:Int))) - az (dQ x.neg x.m)*ax (-(k:Int)):=by grind
   rw[e,ajr]at this
   grind
def hC (I:bQ) (x:R) (n:Nat):Prop:=bQ.ok I∧fW (-n) I.lo∧fW (-n) I.hi∧∃z w:Int,bc I.lo=az z*ax (-n)∧bc I.hi=az w*ax (-n)∧az z≤x*ax n∧x*ax n<az z+1∧x*ax n≤az w∧az w<x*ax n+1
theorem hC.uniq {I J:bQ} {x:R} {n:Nat} (h:hC I x n) (k:hC J x n):I=J:=by
 obtain⟨ok,_,_,z,w,h1,h2,aq,aK,aG,aM⟩:=h
 obtain⟨ahQ,_,_,fU,w',bh,bB,c2,hF,ou,xJ⟩:=k
 have aN:z=fU:=by
  have a:az z<az fU+1:=by grind
  have b:az fU<az z+1:=by grind
  rw[←e2,←gH,l3]at a b
  omega
 have aX:w=w':=by
  have a:az w<az w'+1:=by grind
  have b:az w'<az w+1:=by grind
  rw[←e2,←gH,l3]at a b
  omega
 have a:=NC ok.1 ahQ.1 (by rw[h1,bh,aN])
 have b:=NC ok.2 ahQ.2 (by rw[h2,bB,aX])
 cases I;cases J
 simp only at a b
 rw[a,b]
theorem QY {i:bQ} (ok:bQ.ok i) (n:Nat):bQ.ok (jq i n)∧fW (-n) (jq i n).lo∧fW (-n) (jq i n).hi∧∃z w:Int,bc (jq i n).lo=az z*ax (-n)∧bc (jq i n).hi=az w*ax (-n)∧
 (az z≤bc i.lo*ax n∧bc i.lo*ax n<az z+1)∧(bc i.hi*ax n≤az w∧az w<bc i.hi*ax n+1)∧(lG i n=true↔w≤z+1)∧(VM i n=true↔i.lo=i.hi∨w≤z+1):=by
 obtain⟨cj,ej,z,qB,ib,ayL⟩:=XD ok.1 n
 obtain⟨bM,aW,w,a5,a9,bq⟩:=XD (Eu ok.2) n
 rw[uZ]at a9 bq
 have aX:bc (jq i n).hi=az (-w)*ax (-n):=by
  show bc (eQ _)=_
  rw[uZ,a5,hI];grind
 have wd:bc (yw (jq i n))=az (-w - z)*ax (-n):=by
  unfold yw
  rw[si,uZ,aX]
  show _+ -bc (kI i.lo n)=_
  rw[qB,NG];grind
 have Wn:=c8 (n:Int)
 have aww:=c8 (-(n:Int))
 have one:bc d1=1:=by have:=E3;unfold eK i1 at this;grind
 have ze:bc (fq (-n))=ax (-n):=by
  rw[kl (E:= -n) (fun _=>Int.le_refl _)]
  have:(fq (-n)).V (-n)=1:=by unfold a8.V fq dQ;rw[Int.sub_self];rfl
  rw[this,e2];grind
 have bR:lG i n=true↔-w≤z+1:=by
  unfold lG
  rw[decide_eq_true_iff,vd,CD,wd,one]
  have e:az (-w - z)*ax (-n)*ax n=az (-w - z):=ZD rfl
  rw[e,←e2,dU];omega
 have bS:VM i n=true↔i.lo=i.hi∨-w≤z+1:=by
  unfold VM
  rw[Bool.or_eq_true,decide_eq_true_iff,decide_eq_true_iff,vd,wd,ze]
  have:az (-w - z)*ax (-n)≤ax (-n)↔-w≤z+1:=by
   rw[show -w≤z+1↔-w - z≤1 by omega,←dU,e2]
   constructor
   ·intro h
    refine Std.not_lt.1 fun k=> ?_
    have:=uS (show 0<az (-w - z) - 1 by grind) aww
    grind
   ·intro h
    have:=b0 (show 0≤1 - az (-w - z)by grind) (show 0≤ax (-n)by grind)
    grind
  rw[this]
 exact⟨⟨cj,Eu bM⟩,ej,aW,z,-w,qB,aX,⟨ib,ayL⟩,⟨by rw[hI];grind,by rw[hI];grind⟩,bR,bS⟩
theorem YG {i:bQ} {x δ:R} {n:Nat} (ok:bQ.ok i) (aJ:n≤160) (h:eK i x δ) (g:j1 x) (k:lG i n=true):hC (jq i n) x n:=by
 obtain⟨o,cI,dS,z,w,aN,aX,⟨h1,h2⟩,⟨aq,aK⟩,bR,_⟩:=QY ok n
 have kw:=bR.1 k
 obtain⟨cj,ej,_,_⟩:=h
 have p:=c8 (n:Int)
 have Cb:=c8 (-49)
 have e0:=b0 (show 0≤x - bc i.lo by grind) (show 0≤ax n by grind)
 have gw:=b0 (show 0≤bc i.hi - x by grind) (show 0≤ax n by grind)
 have azY:az w≤az z+1:=by rw[←e2,←gH,dU];exact kw
 have ct:=g n aJ z
 have db:=g n aJ w
 refine⟨o,cI,dS,z,w,aN,aX,by grind,?_,by grind,?_⟩
 ·grind
 ·grind
theorem aaZ {i:bQ} {x δ:R} {n:Nat} (ok:bQ.ok i) (aJ:n≤160) (h:eK i x δ) (g:j1 x) (aD:δ*ax n≤ax (-50)):lG i n=true:=by
 obtain⟨o,cI,dS,z,w,aN,aX,⟨h1,h2⟩,⟨aq,aK⟩,bR,_⟩:=QY ok n
 refine bR.2 (Int.not_lt.1 fun k=> ?_)
 obtain⟨cj,ej,qB,ib⟩:=h
 have p:=c8 (n:Int)
 have ahR:=c8 (-50)
 have azZ:ax (-49)=ax (-50)+ax (-50):=by have:=fk (-50);rwa [show (-50:Int)+1= -49 by decide]at this
 have cX:az z+1+1≤az w:=by rw[←e2,←gH,←gH,dU];omega
 have e0:=b0 (show 0≤bc i.lo+δ - x by grind) (show 0≤ax n by grind)
 have gw:=b0 (show 0≤x+δ - bc i.hi by grind) (show 0≤ax n by grind)
 have ct:=g n aJ (z+1)
 rw[gH,e2]at ct
 grind
theorem Mi {i:bQ} {n:Nat} {x:R} {k:Int} (ok:bQ.ok i) (h:eK i x 0) (aj:x=az k):lG i n=true∧hC (jq i n) x n:=by
 obtain⟨o,cI,dS,z,w,aN,aX,⟨h1,h2⟩,⟨aq,aK⟩,bR,_⟩:=QY ok n
 obtain⟨cj,ej,qB,ib⟩:=h
 have bM:bc i.lo=x:=by grind
 have aW:bc i.hi=x:=by grind
 rw[bM]at h1 h2
 rw[aW]at aq aK
 have ex:x*ax n=az (k*2^n):=by rw[aj,jo,gj]
 have jF:=uT
 refine⟨bR.2 ?_,o,cI,dS,z,w,aN,aX,h1,h2,aq,aK⟩
 have:az w<az z+1+1:=by grind
 rw[←e2,←gH,←gH,l3]at this
 omega
end RV.Dr
namespace RV.Dr
open RV RR
set_option linter.unusedSimpArgs false
set_option linter.unusedVariables false
set_option maxRecDepth 100000
theorem u5 {a:Nat} (h:a<1152921504606846976):a0 a≤14↔a % 70368744177664=0:=by
 by_cases h0:a=0
 ·subst h0;exact⟨fun _=>rfl,fun _=>by rw[yq.2];omega⟩
 ·have bp:=OC h0 h
  have e:a0 a=60 - b2 a:=by unfold a0;rw[if_neg h0]
  have aE:=(jN h0).1
  constructor
  ·intro k
   have:70368744177664∣a:=by
    rw[←aE]
    refine Nat.dvd_trans ?_ (Nat.dvd_mul_left _ _)
    exact Nat.pow_dvd_pow 2 (show 46≤b2 a by omega)
   omega
  ·intro k
   have:=Rw (k:=46) h0 (by exact k)
   omega
theorem pI {a:Nat} (h:a<1152921504606846976) (aO:a0 a≤14):a0 (bV a)≤14:=by
 rw[u5 h]at aO
 rw[u5 (by have:=CV a;omega)]
 unfold bV ca
 split<;>omega
theorem IW {a:Nat} (aO:a0 (bV a)≤14) {w:Int} (hw:0≤w) (gD:w≤800):(dh a w).win (-20000) 200:=by
 have ar:=Sx (K:=b5 (bV a)) (Q:=a0 (bV a)) (by omega) hw gD
 unfold dh
 simp only
 generalize rest (b5 (bV a)) (a0 (bV a)) w=p at*
 generalize ca a=e
 have key:∀(c:Prop) [Decidable c] (p dx:dL),p.win (-20000) 200→dx.win (-20000) 200→(if c then dx else p).win (-20000) 200:=by
  intro c _ p dx h1 h2
  split
  ·exact h2
  ·exact h1
 have bu:=key (e=1∨e=2∨e=5∨e=6) p ⟨p.s,p.c⟩ ar ⟨ar.2,ar.1⟩
 generalize (if e=1∨e=2∨e=5∨e=6 then (⟨p.s,p.c⟩:dL)else p)=p1 at*
 have bs:=key (2≤e∧e≤5) p1 ⟨dG p1.c,p1.s⟩ bu ⟨sb bu.1,bu.2⟩
 generalize (if 2≤e∧e≤5 then (⟨dG p1.c,p1.s⟩:dL)else p1)=cq at*
 exact key (4≤e) cq ⟨cq.c,dG cq.s⟩ bs ⟨bs.1,sb bs.2⟩
theorem j1.neg {x:R} (h:j1 x):j1 (-x):=by
 intro n aJ z
 have:=h n aJ (-z)
 rw[hI]at this
 grind
theorem ER {a:Nat} (h:a<1152921504606846976) (h0:bV a≠0) (aO:a0 (bV a)≤14):Da (pt a):=by
 rw[NH h]
 have ar:=an1 (CV a) h0 aO
 generalize ca a=e
 generalize pt (bV a)=z at*
 unfold Hn
 simp only
 have key:∀(c:Prop) [Decidable c] (z fU:bD),Da z→Da fU→Da (if c then fU else z):=by
  intro c _ z fU h1 h2
  split
  ·exact h2
  ·exact h1
 have bu:=key (e=1∨e=2∨e=5∨e=6) z ⟨z.de,z.dc⟩ ar ⟨ar.2,ar.1⟩
 generalize (if e=1∨e=2∨e=5∨e=6 then (⟨z.de,z.dc⟩:bD)else z)=eZ at*
 have bs:=key (2≤e∧e≤5) eZ ⟨-eZ.dc,eZ.de⟩ bu ⟨bu.1.neg,bu.2⟩
 generalize (if 2≤e∧e≤5 then (⟨-eZ.dc,eZ.de⟩:bD)else eZ)=gU at*
 exact key (4≤e) gU ⟨gU.dc,-gU.de⟩ bs ⟨bs.1,bs.2.neg⟩
def Ll (z:bD):Prop:=(∃k:Int,z.dc=az k)∧∃k:Int,z.de=az k
theorem Iy {a:Nat} (h:a<1152921504606846976) (h0:bV a=0):Ll (pt a):=by
 rw[NH h,h0,aag]
 generalize ca a=e
 unfold Hn
 simp only
 have key:∀(c:Prop) [Decidable c] (z fU:bD),Ll z→Ll fU→Ll (if c then fU else z):=by
  intro c _ z fU h1 h2
  split
  ·exact h2
  ·exact h1
 have P9:∀{x:R},(∃k:Int,x=az k)→∃k:Int,-x=az k:=fun⟨k,e⟩=>⟨-k,by rw[hI,e]⟩
 have ar:Ll bD.one:=⟨⟨1,rfl⟩,0,rfl⟩
 generalize bD.one=z at*
 have bu:=key (e=1∨e=2∨e=5∨e=6) z ⟨z.de,z.dc⟩ ar ⟨ar.2,ar.1⟩
 generalize (if e=1∨e=2∨e=5∨e=6 then (⟨z.de,z.dc⟩:bD)else z)=eZ at*
 have bs:=key (2≤e∧e≤5) eZ ⟨-eZ.dc,eZ.de⟩ bu ⟨P9 bu.1,bu.2⟩
 generalize (if 2≤e∧e≤5 then (⟨-eZ.dc,eZ.de⟩:bD)else eZ)=gU at*
 exact key (4≤e) gU ⟨gU.dc,-gU.de⟩ bs ⟨bs.1,P9 bs.2⟩
theorem ML {a:Nat} {w:Int} (h:a<1152921504606846976) (h0:bV a=0):kD (dh a w) (pt a) 0:=by
 refine aaV h ?_
 rw[h0,yq.1,yq.2]
 exact SZ
theorem abv {lo hi:Int} {p:dL} (h:p.win lo hi):dL.ok p:=⟨IV h.1,IV h.2⟩
theorem told {a n:Nat} (h:a<1152921504606846976) (aO:a0 a≤14) (aJ:n≤160) {w:Nat} (hw:38≤w) (gD:w≤800):
 (lG (dh a w).c n=true→hC (jq (dh a w).c n) (pt a).dc n)∧(lG (dh a w).s n=true→hC (jq (dh a w).s n) (pt a).de n):=by
 have y8:=pI h aO
 have ok:=abv (IW (a:=a) y8 (w:=w) (by omega) (by omega))
 by_cases h0:bV a=0
 ·have p:=ML (w:=w) h h0
  obtain⟨⟨k,e⟩,cX,e'⟩:=Iy h h0
  exact⟨fun _=>(Mi ok.1 p.1 e).2,fun _=>(Mi ok.2 p.2 e').2⟩
 ·have p:=NI (n:=w) (j:=16) h y8 (by omega) (by omega)
  have g:=ER h h0 y8
  exact⟨YG ok.1 aJ p.1 g.1,YG ok.2 aJ p.2 g.2⟩
theorem amq {a n:Nat} (h:a<1152921504606846976) (aO:a0 a≤14) (aJ:n≤160) {w:Nat} (hw:2*n+138≤w∨bV a=0) (gD:w≤800):lG (dh a w).c n=true∧lG (dh a w).s n=true:=by
 have y8:=pI h aO
 have ok:=abv (IW (a:=a) y8 (w:=w) (by omega) (by omega))
 by_cases h0:bV a=0
 ·have p:=ML (w:=w) h h0
  obtain⟨⟨k,e⟩,cX,e'⟩:=Iy h h0
  exact⟨(Mi ok.1 p.1 e).1,(Mi ok.2 p.2 e').1⟩
 ·have hw:=hw.resolve_right h0
  have p:=NI (n:=w) (j:=n+66) h y8 (by omega) (by omega)
  have g:=ER h h0 y8
  have d:ax (16 - (n+66:Nat))*ax n≤ax (-50):=by rw[←g7];exact iG (by omega)
  exact⟨aaZ ok.1 aJ p.1 g.1 d,aaZ ok.2 aJ p.2 g.2 d⟩
theorem apF {a:Nat} (h:a<1152921504606846976) (aO:a0 a≤2):bV a=0:=by
 by_cases h0:a=0
 ·subst h0;rfl
 ·have e:a0 a=60 - b2 a:=by unfold a0;rw[if_neg h0]
  have aE:=(jN h0).1
  have:288230376151711744∣a:=by
   rw[←aE]
   refine Nat.dvd_trans ?_ (Nat.dvd_mul_left _ _)
   exact Nat.pow_dvd_pow 2 (show 58≤b2 a by omega)
  unfold bV ca
  split<;>omega
theorem ZE {a n:Nat} (h:a<1152921504606846976) (aO:a0 a≤14) (aJ:n≤160):lG (dh a ((n:Int)+2*a0 a+40+64*4)).c n=true∧lG (dh a ((n:Int)+2*a0 a+40+64*4)).s n=true:=by
 have:=amq (w:=n+2*a0 a+40+64*4) h aO aJ (by
  by_cases h2:a0 a≤2
  ·exact .inr (apF h h2)
  ·exact .inl (by omega)) (by omega)
 rwa [show ((n+2*a0 a+40+64*4:Nat):Int)=(n:Int)+2*a0 a+40+64*4 by omega]at this
def zn (b:Bool) (p:dL):bQ:=if b=true then p.s else p.c
def rU (b:Bool) (a:Nat) (n:Int):Nat→Int→bQ
 |0,w=>jq (zn b (dh a w)) n
 |k+1,w=>if lG (zn b (dh a w)) n=true then jq (zn b (dh a w)) n else rU b a n k (w+64)
def fO (b:Bool) (a:Nat) (n:Int):bQ:=rU b a n 4 (n+2*a0 a+40)
noncomputable def cF (b:Bool) (a:Nat):R:=if b=true then (pt a).de else (pt a).dc
theorem ZF {b:Bool} {a n:Nat} (h:a<1152921504606846976) (aO:a0 a≤14) (aJ:n≤160):∀(k m:Nat),m+k=4→hC (rU b a n k ((n:Int)+2*a0 a+40+64*m)) (cF b a) n
 |0,m,hm=>by
  obtain rfl:m=4:=by omega
  have aK:=ZE h aO aJ
  have ae:=told (w:=n+2*a0 a+40+64*4) h aO aJ (by omega) (by omega)
  rw[show ((n+2*a0 a+40+64*4:Nat):Int)=(n:Int)+2*a0 a+40+64*4 by omega]at ae
  cases b
  ·exact ae.1 aK.1
  ·exact ae.2 aK.2
 |k+1,m,hm=>by
  have ae:=told (w:=n+2*a0 a+40+64*m) h aO aJ (by omega) (by omega)
  rw[show ((n+2*a0 a+40+64*m:Nat):Int)=(n:Int)+2*a0 a+40+64*m by omega]at ae
  unfold rU
  split
  ·rename_i ay
   cases b
   ·exact ae.1 ay
   ·exact ae.2 ay
  ·have:=ZF (b:=b) h aO aJ k (m+1) (by omega)
   rwa [show (n:Int)+2*a0 a+40+64*((m+1:Nat):Int)=(n:Int)+2*a0 a+40+64*m+64 by omega]at this
theorem Ip {b:Bool} {a n:Nat} (h:a<1152921504606846976) (aO:a0 a≤14) (aJ:n≤160):hC (fO b a n) (cF b a) n:=by
 have:=ZF (b:=b) h aO aJ 4 0 (by omega)
 rwa [show (n:Int)+2*a0 a+40+64*((0:Nat):Int)=(n:Int)+2*a0 a+40 by omega]at this
end RV.Dr
namespace RV.Dr
open Go RV
set_option linter.unusedSimpArgs false
set_option linter.unusedVariables false
set_option maxRecDepth 100000
set_option maxHeartbeats 4000000
def DM (b:Bool):Nat:=if b=true then 150 else 148
def lp:br where
 pre:=fun ds=>∃(K:Int) (Q n:Nat) (b:Bool),ds=[cd K Q,.int .i64 n,.fn (DM b) [] []]∧Q≤60∧a0 (an K Q)≤14∧n≤160
 res:=fun ds=>match ds with
  |[.agg [.int _ K,.int _ Q],.int _ n,.fn f _ _]=>a2 (fO (decide (f=150)) (an K Q.toNat) n)
  |_=> .nilp
def tc (K Q n:Int) (b:Bool) (w:Int) (s:St):Prop:=s.af 1= .d (.int .i64 n)∧s.af 2= .d (.fn (DM b) [] [])∧s.af 3= .box 3 0∧s.aA 3=some ⟨false,false,.cells [.d (.int .i64 K),.d (.int .i64 Q)]⟩∧dF 6 s∧s.af 7= .d (.int .i64 w)
def Ho (aR:Int) (s:St):Nat:=match s.af 7 with
 | .d (.int _ w)=>(aR+1000 - w).toNat
 |_=>0
theorem Iz {Γ:Env} :∀{l:iT} {jj ahS iU ahT iV Kg':St→Prop} {σ:St},(∀s,jj s→ahS s)→(∀s,iU s→ahT s)→(∀s,iV s→Kg' s)→lC Γ l jj iU iV σ→lC Γ l ahS ahT Kg' σ
 | .c l,_,_,_,_,_,_,_,aJ,ar,bb,h=>kb l (fun e s aE=>by
  cases e with
  |normal=>exact aJ s aE
  |ret=>exact ar s aE
  |exit j=>exact aE) h
 | .seq a b,_,_,_,_,_,_,_,aJ,ar,bb,h=>Iz (l:=a) (fun s aE=>Iz (l:=b) aJ ar bb aE) ar bb h
 | .cond c a b,_,_,_,_,_,_,σ,aJ,ar,bb,h=>by
   simp only[lC]at*
   split at h
   ·exact⟨fun e=>Iz aJ ar bb (h.1 e),fun e=>Iz aJ ar bb (h.2 e)⟩
   ·exact h.elim
 | .goto,_,_,_,_,_,_,_,_,_,bb,h=>bb _ h
theorem Gl (Γ:Env) (Bx:Γ.has 179 mc) (aeB:Γ.has 181 rk) (aeC:Γ.has 180 sD) (atC:Γ.has 148 rm) (atD:Γ.has 150 rn) (ds:List D) (h:lp.pre ds):C3 Γ abe abf NW Oh ds fun d=>d=lp.res ds:=by
 obtain⟨K,Q,n,b,rfl,cw,aO,aJ⟩:=h
 have bO:lp.res [cd K Q,.int .i64 n,.fn (DM b) [] []]=a2 (fO b (an K Q) n):=by
  have:decide (DM b=150)=b:=by cases b<;>decide
  simp only[lp,cd,Int.toNat_natCast,this]
 rw[bO]
 have b4:=ft K Q
 have ayM:=i179 K cw
 have LU:=FX K Q
 have y8:=pI b4 aO
 have aK:=ZE b4 aO aJ
 have qJ:∀w:Int,0≤w→w≤800→rk.pre [.agg [.int .i64 K,.int .i64 Q],.int .i64 w]:=fun w h0 h1=>⟨K,Q,w,rfl,cw,y8,h0,h1⟩
 have pA:∀w:Int,rk.res [.agg [.int .i64 K,.int .i64 Q],.int .i64 w]=en (dh (an K Q) w):=fun w=>by simp only[rk,Int.toNat_natCast]
 have kS:∀w:Int,0≤w→w≤800→(dh (an K Q) w).win (-20000) 200:=fun w h0 h1=>IW y8 h0 h1
 unfold fO
 generalize an K Q=a at*
 generalize b5 a=k at*
 obtain⟨aR,gp⟩:∃aR:Int,aR=(n:Int)+2*a0 a+40:=⟨_,rfl⟩
 rw[←gp]at aK⊢
 obtain⟨R,eC⟩:∃R,R=rU b a n 4 aR:=⟨_,rfl⟩
 rw[←eC]
 have key:∀(m:Nat) (s:St),m≤4→rU b a n (4 - m) (aR+64*m)=R→tc K Q n b (aR+64*m) s→lC Γ NW (fun s=>kJ Oh s fun d=>d=a2 R) (fun s=>kJ Oh s fun d=>d=a2 R) (fun ef=>(∃m:Nat,m≤4∧rU b a n (4 - m) (aR+64*m)=R∧tc K Q n b (aR+64*m) ef)∧Ho aR ef<Ho aR s) s:=by
  intro m s hm hf ⟨h1,h2,aq,a5,⟨aM,aY⟩,aS⟩
  obtain⟨w,Qg⟩:∃w,w=aR+64*(m:Int):=⟨_,rfl⟩
  have yY:0≤w∧w≤800:=by omega
  have ahU:aR+64*((m+1:Nat):Int)=w+64:=by omega
  have ahV:m=4→lG (zn b (dh a w)) n=true:=fun e=>by
   rw[Qg,e,show ((4:Nat):Int)=4 from rfl]
   cases b
   ·exact aK.1
   ·exact aK.2
  rw[←Qg]at hf aS
  have awx:Ho aR s=(aR+1000 - w).toNat:=by unfold Ho;rw[aS]
  have D3:=qJ w yY.1 yY.2
  have ro:=pA w
  have hw:=kS w yY.1 yY.2
  clear qJ pA kS aK eC
  have Kz:rU b a n (4 - m) w=if lG (zn b (dh a w)) n=true then jq (zn b (dh a w)) n else if m=4 then jq (zn b (dh a w)) n else rU b a n (4 - (m+1)) (w+64):=by
   by_cases cN:m=4
   ·subst cN
    rw[if_pos rfl]
    show jq _ _=_
    split<;>rfl
   ·rw[show 4 - m=4 - (m+1)+1 by omega,if_neg cN];rfl
  rw[Kz]at hf
  clear Kz
  generalize dh a w=P at*
  obtain⟨x,aj⟩:∃x,x=zn b P:=⟨_,rfl⟩
  have ahW:x.win (-20000) 200:=by
   rw[aj];cases b
   ·exact hw.1
   ·exact hw.2
  rw[←aj]at ahV
  obtain⟨y,hy⟩:∃y,y=jq x n:=⟨_,rfl⟩
  obtain⟨ok,c0⟩:∃ok,ok=lG x n:=⟨_,rfl⟩
  have ze:sD.pre [a2 x,.int .i64 n]:=⟨x,n,rfl,win.up ahW.1 (by omega) (by omega),win.up ahW.2 (by omega) (by omega),by omega,by omega⟩
  have dc:sD.res [a2 x,.int .i64 n]= .du [a2 y,.bool ok]:=by simp only[sD,a2,aZ,dY,hy,c0]
  have fV:rm.pre [en P]:=⟨P,rfl⟩
  have rc:rm.res [en P]=a2 P.c:=by simp only[rm,E1]
  have ps:rn.pre [en P]:=⟨P,rfl⟩
  have rs:rn.res [en P]=a2 P.s:=by simp only[rn,E1]
  have GI:(if ok=true then y else if m=4 then y else rU b a n (4 - (m+1)) (w+64))=R:=by
   rw[←hf,hy,c0,aj]
  unfold NW
  simp only[lC,IF]
  refine zD (fun s=>s.af 9= .d (.bool ok)∧cL 8 y s∧tc K Q n b w s) ?_ ?_
  ·unfold en aZ at ro fV rc ps rs
   unfold a2 aZ at ze dc rc rs
   have cu:b=true∨b=false:=by cases b<;>simp
   rcases cu with rfl|rfl
   ·have z5:x=P.s:=aj
    subst z5
    have hG:DM true=150:=rfl
    rw[hG]at h2
    simp (maxSteps:=9^9) only[↓al,ak,simprocAttr,h1,h2,aq,a5,aM,aY,aS,aeB,D3,ro,atD,ps,rs,aeC,ze,dc,cL,dF,tc,hG]
   ·have z5:x=P.c:=aj
    subst z5
    have hG:DM false=148:=rfl
    rw[hG]at h2
    simp (maxSteps:=9^9) only[↓al,ak,simprocAttr,h1,h2,aq,a5,aM,aY,aS,aeB,D3,ro,atC,fV,rc,aeC,ze,dc,cL,dF,tc,hG]
  clear h1 h2 aq a5 aM aY aS ze dc fV rc ps rs D3 ro
  rintro s ⟨bH,⟨bn,bZ⟩,h1,h2,aq,a5,⟨aM,aY⟩,aS⟩
  cases ok with
  |true=>
   rw[if_pos rfl]at GI
   subst GI
   unfold a2 aZ
   simp (maxSteps:=9^9) only[↓al,ak,simprocAttr,Oh,bH,bn,bZ,h1,h2,aq,a5,aM,aY,aS,Bool.not_true,Bool.false_eq_true]
  |false=>
   have cN:m≠4:=fun e=>by have:=ahV e;rw[←c0]at this;cases this
   rw[if_neg (by decide),if_neg cN]at GI
   refine zD (fun s=>s.af 28= .d (.bool true)∧tc K Q n b w s) ?_ ?_
   ·simp (maxSteps:=9^9) only[↓al,ak,simprocAttr,bH,bn,bZ,h1,h2,aq,a5,aM,aY,aS,Bool.not_false,tc,dF]
   clear h1 h2 aq a5 aM aY aS bH bn bZ
   rintro s ⟨Lf,h1,h2,aq,a5,⟨aM,aY⟩,aS⟩
   have ahX:s.aU (.t 28)= .d (.bool true):=Lf
   simp only[ahX]
   refine⟨fun _=> ?_,fun e=>by cases e⟩
   refine zD (fun s=>tc K Q n b (w+64) s) ?_ ?_
   ·simp (maxSteps:=9^9) only[↓al,ak,simprocAttr,Lf,h1,h2,aq,a5,aM,aY,aS,tc,dF]
    ((repeat' apply And.intro)<;>first|assumption|with_reducible rfl|omega|(simp only[aI];omega)|exact⟨_,rfl⟩|exact⟨_,_,_,rfl⟩|exact⟨_,_,_,_,_,_,rfl⟩)
   clear h1 h2 aq a5 aM aY Lf ahX
   intro ef aE
   refine⟨⟨m+1,by omega,by rw[ahU];exact GI,by rw[ahU];exact aE⟩,?_⟩
   rw[awx]
   unfold Ho
   rw[aE.2.2.2.2.2]
   simp only
   omega
 unfold C3 abe
 refine zD (fun s=>s.af 1= .d (.int .i64 n)∧s.af 2= .d (.fn (DM b) [] [])∧s.af 3= .box 3 0∧s.aA 3=some ⟨false,false,.cells [.d (.int .i64 K),.d (.int .i64 Q)]⟩∧dF 6 s) ?_ ?_
 ·simp (maxSteps:=9^9) only[↓al,ak,simprocAttr,cd,dF]
 rintro s ⟨h1,h2,aq,a5,⟨aM,aY⟩⟩
 refine⟨fun s=>∃m:Nat,m≤4∧rU b a n (4 - m) (aR+64*m)=R∧tc K Q n b (aR+64*m) s,Ho aR,?_,fun s ⟨m,h1,h2,aq⟩=>key m s h1 h2 aq⟩
 unfold abf
 simp only[lC,IF]
 refine zD (fun s=>tc K Q n b aR s) ?_ ?_
 ·simp (maxSteps:=9^9) only[↓al,ak,simprocAttr,h1,h2,aq,a5,aM,aY,tc,dF,Bx,ayM,LU]
  rw[gp]
  ((repeat' apply And.intro)<;>first|assumption|with_reducible rfl|omega|(simp only[aI];omega)|exact⟨_,rfl⟩|exact⟨_,_,_,rfl⟩|exact⟨_,_,_,_,_,_,rfl⟩)
 clear h1 h2 aq a5 aM aY
 intro s aE
 have:=key 0 s (by omega) (by rw[eC,Int.natCast_zero,Int.mul_zero,Int.add_zero]) (by rw[Int.natCast_zero,Int.mul_zero,Int.add_zero];exact aE)
 have:=Iz (Kg':=fun s=>∃m:Nat,m≤4∧rU b a n (4 - m) (aR+64*m)=R∧tc K Q n b (aR+64*m) s) (fun _ h=>h) (fun _ h=>h) (fun _ h=>h.1) this
 unfold NW at this
 simp only[lC,IF]at this
 exact this
def mL:br where
 pre:=fun ds=>∃(K:Int) (Q n:Nat),ds=[cd K Q,.int .i64 n]∧Q≤60∧a0 (an K Q)≤14∧n≤160
 res:=fun ds=>match ds with
  |[.agg [.int _ K,.int _ Q],.int _ n]=>a2 (fO false (an K Q.toNat) n)
  |_=> .nilp
theorem Hp (Γ:Env) (T3:Γ.has 147 lp) (ds:List D) (h:mL.pre ds):bK Γ afM afN ds fun d=>d=mL.res ds:=by
 obtain⟨K,Q,n,rfl,cw,aO,aJ⟩:=h
 have bO:mL.res [cd K Q,.int .i64 n]=a2 (fO false (an K Q) n):=by simp only[mL,cd,Int.toNat_natCast]
 rw[bO]
 have p1:lp.pre [.agg [.int .i64 K,.int .i64 Q],.int .i64 n,.fn 148 [] []]:=⟨K,Q,n,false,rfl,cw,aO,aJ⟩
 have bA:lp.res [.agg [.int .i64 K,.int .i64 Q],.int .i64 n,.fn 148 [] []]=a2 (fO false (an K Q) n):=by
  have:decide ((148:Nat)=150)=false:=by decide
  simp only[lp,Int.toNat_natCast,this]
 generalize fO false (an K Q) n=y at*
 unfold a2 aZ at bA
 simp (maxSteps:=9^9) only[↓al,ak,simprocAttr,afM,afN,cd,a2,T3,p1,bA]
def mM:br where
 pre:=fun ds=>∃(K:Int) (Q n:Nat),ds=[cd K Q,.int .i64 n]∧Q≤60∧a0 (an K Q)≤14∧n≤160
 res:=fun ds=>match ds with
  |[.agg [.int _ K,.int _ Q],.int _ n]=>a2 (fO true (an K Q.toNat) n)
  |_=> .nilp
theorem Hq (Γ:Env) (T3:Γ.has 147 lp) (ds:List D) (h:mM.pre ds):bK Γ agw agx ds fun d=>d=mM.res ds:=by
 obtain⟨K,Q,n,rfl,cw,aO,aJ⟩:=h
 have bO:mM.res [cd K Q,.int .i64 n]=a2 (fO true (an K Q) n):=by simp only[mM,cd,Int.toNat_natCast]
 rw[bO]
 have p1:lp.pre [.agg [.int .i64 K,.int .i64 Q],.int .i64 n,.fn 150 [] []]:=⟨K,Q,n,true,rfl,cw,aO,aJ⟩
 have bA:lp.res [.agg [.int .i64 K,.int .i64 Q],.int .i64 n,.fn 150 [] []]=a2 (fO true (an K Q) n):=by
  simp only[lp,Int.toNat_natCast,decide_true]
 generalize fO true (an K Q) n=y at*
 unfold a2 aZ at bA
 simp (maxSteps:=9^9) only[↓al,ak,simprocAttr,agw,agx,cd,a2,T3,p1,bA]
end RV.Dr
namespace RV.Dr
open RV RR
set_option linter.unusedSimpArgs false
set_option linter.unusedVariables false
set_option maxRecDepth 100000
theorem hC.J2 {I:bQ} {x:R} {n:Nat} (h:hC I x n):bc I.lo≤x∧x≤bc I.hi:=by
 obtain⟨_,_,_,z,w,h1,h2,aq,aK,aG,aM⟩:=h
 have p:=c8 (-(n:Int))
 have q:=oQ (n:Int)
 have bh:=b0 (show 0≤x*ax n - az z by grind) (show 0≤ax (-n)by grind)
 have bB:=b0 (show 0≤az w - x*ax n by grind) (show 0≤ax (-n)by grind)
 have aN:(x*ax n - az z)*ax (-n)=x*(ax n*ax (-n)) - az z*ax (-n):=by grind
 have aX:(az w - x*ax n)*ax (-n)=az w*ax (-n) - x*(ax n*ax (-n)):=by grind
 rw[aN,q]at bh
 rw[aX,q]at bB
 rw[h1,h2]
 constructor<;>grind
theorem asw {x:R} {n:Nat} {z w:Int} (aj: -1≤x∧x≤1) (aq:az z≤x*ax n) (aK:x*ax n<az z+1) (aG:x*ax n≤az w) (aM:az w<x*ax n+1): -(2^n)≤z∧w≤2^n:=by
 have p:=c8 (n:Int)
 have a:=b0 (show 0≤x+1 by grind) (show 0≤ax n by grind)
 have b:=b0 (show 0≤1 - x by grind) (show 0≤ax n by grind)
 have c:az (-(2^n))<az z+1:=by rw[hI,gj];grind
 have d:az w<az (2^n)+1:=by rw[gj];grind
 rw[←e2,←gH,l3]at c d
 omega
theorem apG {d:a8} {n:Nat} {z:Int} (l:fW (-n) d) (h:bc d=az z*ax (-n)):d.V (-n)=z:=by
 rw[kl l]at h
 have a:az (d.V (-n))*ax (-n)*ax n=az z*ax (-n)*ax n:=by rw[h]
 have q:=oQ (n:Int)
 rw[show az (d.V (-n))*ax (-n)*ax n=az (d.V (-n))*(ax n*ax (-n))by grind,show az z*ax (-n)*ax n=az z*(ax n*ax (-n))by grind,q]at a
 have b:az (d.V (-n))≤az z:=by grind
 have c:az z≤az (d.V (-n)):=by grind
 rw[dU]at b c
 omega
theorem hC.ends {I:bQ} {x:R} {n:Nat} (h:hC I x n) (aj: -1≤x∧x≤1):I.win (-n) 2∧e4 I.lo I.hi≤0∧-1≤bc I.lo∧bc I.hi≤1:=by
 have aH:=h.J2
 obtain⟨ok,cI,dS,z,w,h1,h2,aq,aK,aG,aM⟩:=h
 have bp:=asw aj aq aK aG aM
 have awy:z≤2^n:=by
  have:az z≤az w:=by grind
  rw[dU]at this;omega
 have gD: -(2^n)≤w:=by
  have:az z≤az w:=by grind
  rw[dU]at this;omega
 have key:∀{d:a8} {t:Int},d.ok→fW (-n) d→bc d=az t*ax (-n)→-(2^n)≤t→t≤2^n→d.win (-n) 2:=fun {d t} ok l e a b=>by
  refine Rx ok l (by omega) ?_
  rw[apG l e]
  have aX:(2 - -(n:Int)).toNat=n+2:=by omega
  rw[aX,Nat.pow_add]
  have c:((2^n:Nat):Int)=2^n:=Int.natCast_pow 2 n
  have:=Nat.two_pow_pos n
  omega
 have q:=oQ (n:Int)
 have p:=c8 (-(n:Int))
 refine⟨⟨key ok.1 cI h1 bp.1 awy,key ok.2 dS h2 gD bp.2⟩,vd.2 (by grind),?_,?_⟩
 ·have a:az (-(2^n))≤az z:=dU.2 bp.1
  rw[hI,gj]at a
  have:=b0 (show 0≤az z+ax n by grind) (show 0≤ax (-n)by grind)
  rw[show (az z+ax n)*ax (-n)=az z*ax (-n)+ax n*ax (-n)by grind,q]at this
  rw[h1];grind
 ·have a:az w≤az (2^n):=dU.2 bp.2
  rw[gj]at a
  have:=b0 (show 0≤ax n - az w by grind) (show 0≤ax (-n)by grind)
  rw[show (ax n - az w)*ax (-n)=ax n*ax (-n) - az w*ax (-n)by grind,q]at this
  rw[h2];grind
theorem k7 (b:Bool) (a:Nat): -1≤cF b a∧cF b a≤1:=by
 have:=Ix (NB a)
 cases b
 ·exact this.1
 ·exact this.2
theorem N1 (e:Int):bc (fq e)=ax e:=by
 rw[kl (E:=e) (fun _=>Int.le_refl _)]
 have:(fq e).V e=1:=by unfold a8.V fq dQ;rw[Int.sub_self];rfl
 rw[this,e2];grind
theorem hC.wide {I:bQ} {x:R} {n:Nat} (h:hC I x n) (aJ:n≤160) (g:j1 x):yw I=fq (-n):=by
 obtain⟨ok,cI,dS,z,w,h1,h2,aq,aK,aG,aM⟩:=h
 have Cb:=c8 (-49)
 have ct:=g n aJ z
 have db:=g n aJ w
 have e:w=z+1:=by
  have a:az z<az w:=by grind
  have b:az w<az z+1+1:=by grind
  rw[l3]at a
  rw[←e2,←gH,←gH,l3]at b
  omega
 refine NC (Nh ok.2 (Eu ok.1)) (VL (-n)▸oV ..) ?_
 rw[N1]
 unfold yw
 rw[si,uZ,h1,h2,e,gH,e2]
 grind
theorem hC.abw {I:bQ} {x:R} {n:Nat} {k:Int} (h:hC I x n) (e:x=az k):I.lo=I.hi∧bc I.lo=x:=by
 have aH:=h.J2
 obtain⟨ok,cI,dS,z,w,h1,h2,aq,aK,aG,aM⟩:=h
 have cc:x*ax n=az (k*2^n):=by rw[e,jo,gj]
 rw[cc]at aq aK aG aM
 rw[dU]at aq aG
 rw[←e2,←gH,l3]at aK aM
 have s7:z=w:=by omega
 have Ci:bc I.lo=bc I.hi:=by rw[h1,h2,s7]
 refine⟨NC ok.1 ok.2 Ci,by grind⟩
theorem hC.flip {I:bQ} {x:R} {n:Nat} (h:hC I x n):hC (dG I) (-x) n:=by
 obtain⟨ok,cI,dS,z,w,h1,h2,aq,aK,aG,aM⟩:=h
 refine⟨ZB ok,dS.flip,cI.flip,-w,-z,?_,?_,?_,?_,?_,?_⟩
 ·show bc (eQ _)=_
  rw[uZ,h2,hI];grind
 ·show bc (eQ _)=_
  rw[uZ,h1,hI];grind
 all_goals rw[hI];grind
theorem hC.more {I J:bQ} {x:R} {n m:Nat} (h:hC I x n) (k:hC J x m) (l:n≤m):bc I.lo≤bc J.lo∧bc J.hi≤bc I.hi:=by
 obtain⟨_,_,_,z,w,h1,h2,aq,aK,aG,aM⟩:=h
 obtain⟨_,_,_,fU,w',bh,bB,c2,hF,ou,xJ⟩:=k
 obtain⟨d,rfl⟩:∃d,m=n+d:=⟨m - n,by omega⟩
 have em:ax ((n+d:Nat):Int)=ax n*ax d:=by rw[←g7];congr 1
 have Ck:ax (-n)=ax (-((n+d:Nat):Int))*ax d:=by rw[←g7];congr 1;omega
 rw[em]at c2 hF ou xJ
 have Qf:=c8 (d:Int)
 have pm:=c8 (-((n+d:Nat):Int))
 have a:=b0 (show 0≤x*ax n - az z by grind) (show 0≤ax d by grind)
 have b:=b0 (show 0≤az w - x*ax n by grind) (show 0≤ax d by grind)
 have bR:az (z*2^d)<az (fU+1):=by rw[jo,gj,gH,e2];grind
 have bS:az w'<az (w*2^d+1):=by rw[gH,jo,gj,e2];grind
 rw[l3]at bR bS
 have bR:az (z*2^d)≤az fU:=dU.2 (by omega)
 have bS:az w'≤az (w*2^d):=dU.2 (by omega)
 rw[jo,gj]at bR bS
 have d1:=b0 (show 0≤az fU - az z*ax d by grind) (show 0≤ax (-((n+d:Nat):Int))by grind)
 have d2:=b0 (show 0≤az w*ax d - az w' by grind) (show 0≤ax (-((n+d:Nat):Int))by grind)
 rw[h1,h2,bh,bB,Ck]
 constructor<;>grind
theorem apH (a:Nat):pt ((a+576460752303423488) % 1152921504606846976)=⟨-(pt a).dc,-(pt a).de⟩:=by
 rw[Je,A8]
 have:pt 576460752303423488=⟨-1,0⟩:=by
  have:=pZ (q:=1) (by omega) 1
  rw[show 1*2^(60 - 1)=576460752303423488 by decide]at this
  rw[this];exact bD.one_mul _
 rw[this]
 exact bD.ext' (by simp only[bD.mul];grind) (by simp only[bD.mul];grind)
theorem apI (a:Nat):pt ((a+288230376151711744) % 1152921504606846976)=⟨-(pt a).de,(pt a).dc⟩:=by
 rw[Je,A8,alj]
 exact bD.ext' (by simp only[bD.mul,bD.I];grind) (by simp only[bD.mul,bD.I];grind)
theorem arz {a:Nat} (h:a<1152921504606846976):pt ((1152921504606846976 - a) % 1152921504606846976)=⟨(pt a).dc,-(pt a).de⟩:=by
 rw[Je,arp (a:=a) (k:=1) (by omega)];rfl
end RV.Dr
namespace RV
open Go
def rg (q:Int) (n:Nat):Nat:=(q+1074).toNat*4503599627370496+n
def wd (neg:Bool) (r:Nat):Nat:=if neg then 9223372036854775808+r else r
theorem arA (neg:Bool) (r:Nat):Ieee.double.word neg r=wd neg r:=rfl
theorem Nq:Ieee.double.leastPlace= -1074:=by decide
theorem RE:Ieee.double.binade=4503599627370496:=by decide
theorem S0:Ieee.double.infRung=9218868437227405312:=by decide
theorem abx:Ieee.double.signWeight=9223372036854775808:=by decide
theorem IX (q:Int) (h: -1074≤q):rg q 9007199254740992=rg (q+1) 4503599627370496:=by
 unfold rg
 have:(q+1+1074).toNat=(q+1074).toNat+1:=by omega
 rw[this,Nat.succ_mul,Nat.add_assoc]
theorem E4 {q:Int} {n:Nat} (h2:n<9007199254740992) (aO: -1074≤q) (jZ:q≤971):rg q n<9218868437227405312:=by
 unfold rg
 have h:(q+1074).toNat≤2045:=by omega
 have aq:=Nat.mul_le_mul_right 4503599627370496 h
 exact Nat.lt_of_le_of_lt (Nat.add_le_add_right aq n) (Nat.lt_of_lt_of_le (Nat.add_lt_add_left h2 _) (by decide))
theorem SC {B Q f:Nat} (h:f<B):(Q*B+(B+f)) % B=f∧(Q*B+(B+f)) / B=Q+1:=by
 have e:Q*B+(B+f)=f+B*(Q+1):=by rw[Nat.mul_succ,Nat.mul_comm];omega
 rw[e,Nat.add_mul_mod_self_left,Nat.add_mul_div_left _ _ (by omega),Nat.mod_eq_of_lt h,Nat.div_eq_of_lt h]
 omega
theorem alk {B r:Nat} (h:r<B):(B+r) / B=1∧(B+r) % B=r:=by
 have:B+r=r+B*1:=by omega
 rw[this,Nat.add_mul_mod_self_left,Nat.add_mul_div_left _ _ (by omega),Nat.mod_eq_of_lt h,Nat.div_eq_of_lt h]
 exact⟨rfl,rfl⟩
theorem NJ {neg:Bool} {r:Nat} (h:r<9223372036854775808):(wd neg r / 9223372036854775808 % 2==1)=neg∧wd neg r % 9223372036854775808=r:=by
 cases neg
 ·simp only[wd,Bool.false_eq_true,if_false]
  exact⟨by rw[Nat.div_eq_of_lt h];rfl,Nat.mod_eq_of_lt h⟩
 ·simp only[wd,if_true]
  obtain⟨a,b⟩:=alk h
  exact⟨by rw[a];rfl,b⟩
theorem apJ {neg:Bool} {q:Int} {n:Nat} (h1:4503599627370496≤n) (h2:n<9007199254740992) (aO: -1074≤q) (jZ:q≤971):
 Ieee.double.read (wd neg (rg q n))= .number neg n q:=by
 have bl:=E4 h2 aO jZ
 obtain⟨aN,aX⟩:=NJ (neg:=neg) (r:=rg q n) (Nat.lt_trans bl (by decide))
 obtain⟨f,rfl⟩:∃f,n=4503599627370496+f:=⟨n - 4503599627370496,by omega⟩
 have hf:f<4503599627370496:=by omega
 obtain⟨a,b⟩:=SC (Q:=(q+1074).toNat) hf
 have sN:¬rg q (4503599627370496+f)<4503599627370496:=by
  unfold rg;generalize (q+1074).toNat*4503599627370496=x;omega
 have cc:(-1074:Int)+(((q+1074).toNat+1 - 1:Nat):Int)=q:=by omega
 unfold Ieee.Format.read
 simp only[abx,RE,S0,Nq,aN,aX]
 rw[if_neg sN,if_pos bl]
 unfold rg
 rw[a,b,cc]
theorem aam {n k:Nat} (h1:2^k≤n) (h2:n<2^(k+1)):n.log2=k:=by
 have h0:n≠0:=by have:=Nat.two_pow_pos k;omega
 have a:k≤n.log2:=(Nat.le_log2 h0).2 h1
 have b:n.log2<k+1:=(Nat.log2_lt h0).2 h2
 omega
theorem an2 {m:Nat} (h:m≠0) (k:Nat):(m*2^k).log2=m.log2+k:=by
 have a:=Nat.log2_self_le h
 have b:=Nat.lt_log2_self (n:=m)
 refine aam ?_ ?_
 ·rw[Nat.pow_add];exact Nat.mul_le_mul_right _ a
 ·rw[show m.log2+k+1=(m.log2+1)+k by omega,Nat.pow_add]
  exact Nat.mul_lt_mul_of_pos_right b (Nat.two_pow_pos k)
theorem amr (neg:Bool) (n k:Nat) (ad:k≤(n*2^k).log2+2):Ieee.Toward.even.cut neg (n*2^k) k=n:=by
 unfold Ieee.Toward.cut
 have aQ:=Nat.two_pow_pos k
 simp only[Nat.min_eq_left ad,Nat.one_shiftLeft,Nat.mul_div_cancel _ aQ,Nat.mul_mod_left,Nat.mul_zero]
 have h1:decide (2^k<0)=false:=by simp
 have h2:(2^k==0)=false:=by simp
 rw[h1,h2];rfl
theorem asx {n:Nat} (h1:4503599627370496≤n) (h2:n<9007199254740992):n.log2=52:=aam (k:=52) h1 h2
theorem Qw {neg:Bool} {m n k:Nat} {p q:Int} (h1:4503599627370496≤n) (h2:n<9007199254740992) (aO: -1074≤q) (jZ:q≤971) (hm:m=n*2^k) (aQ:q=p+k):
 Ieee.double.nearest neg m p=wd neg (rg q n):=by
 have qK:n≠0:=by omega
 have HP:m≠0:=by
  rw[hm];exact Nat.mul_ne_zero qK (by have:=Nat.two_pow_pos k;omega)
 have aH:=an2 qK k
 rw[←hm,asx h1 h2]at aH
 unfold Ieee.Format.nearest
 rw[if_neg HP]
 have aN:max (p+(m.log2:Int) - (Ieee.double.fractionBits:Int)) Ieee.double.leastPlace=q:=by
  rw[Nq,show (Ieee.double.fractionBits:Int)=52 from rfl]
  omega
 simp only[aN]
 simp only[Nq,RE,S0]
 have aX:(p - q).toNat=0:=by omega
 have cc:(q - p).toNat=k:=by omega
 rw[aX,cc,Nat.shiftLeft_zero,hm,amr neg n k (by rw[←hm,aH];omega),arA]
 have bl:=E4 h2 aO jZ
 rw[show (q - -1074)=q+1074 by omega]
 exact congrArg (wd neg) (Nat.min_eq_left (Nat.le_of_lt bl))
def vY (m k:Nat):Nat:=m / 2^k+if 2^k<2*(m % 2^k)∨(2^k=2*(m % 2^k)∧m / 2^k % 2=1)then 1 else 0
theorem an3 (m k:Nat):2*m≤2*vY m k*2^k+2^k∧2*vY m k*2^k≤2*m+2^k:=by
 have h:=Nat.div_add_mod m (2^k)
 have aH:=Nat.mod_lt m (Nat.two_pow_pos k)
 unfold vY
 generalize m / 2^k=a at*
 generalize m % 2^k=b at*
 generalize 2^k=p at*
 have e:p*a=a*p:=Nat.mul_comm ..
 split
 ·have:2*(a+1)*p=2*(a*p)+2*p:=by rw[Nat.mul_assoc,Nat.add_mul,Nat.one_mul];omega
  omega
 ·have:2*(a+0)*p=2*(a*p):=by rw[Nat.add_zero,Nat.mul_assoc]
  omega
def dC (d:a8):Int:=d.e+a1 d.m - 53
def hD (d:a8):Nat:=if a1 d.m≤53 then d.m*2^(53 - a1 d.m)else vY d.m (a1 d.m - 53)
def cT (d:a8):Nat:=if d.m=0 then 0 else wd d.neg (rg (dC d) (hD d))
def qf (d:a8):Prop:=d.m≠0→-1000≤d.e+a1 d.m∧d.e+a1 d.m≤1000
theorem EG {d:a8} (h:d.m≠0):4503599627370496≤hD d∧hD d≤9007199254740992:=by
 have a:=AL h
 have b:=kG d.m
 unfold hD
 split
 ·rename_i hle
  constructor
  ·have:=Nat.mul_le_mul_right (2^(53 - a1 d.m)) a
   rw[←Nat.pow_add,show a1 d.m - 1+(53 - a1 d.m)=52 by have:=qR h;omega]at this
   exact this
  ·have:=Nat.mul_le_mul_right (2^(53 - a1 d.m)) (Nat.le_of_lt b)
   rw[←Nat.pow_add,show a1 d.m+(53 - a1 d.m)=53 by omega]at this
   exact this
 ·rename_i awz
  have p:=Nat.two_pow_pos (a1 d.m - 53)
  have l:4503599627370496≤d.m / 2^(a1 d.m - 53):=by
   rw[Nat.le_div_iff_mul_le p]
   have:(4503599627370496:Nat)*2^(a1 d.m - 53)=2^(a1 d.m - 1):=by
    rw[show (4503599627370496:Nat)=2^52 by decide,←Nat.pow_add];congr 1;omega
   omega
  have u:d.m / 2^(a1 d.m - 53)<9007199254740992:=by
   rw[Nat.div_lt_iff_lt_mul p]
   have:(9007199254740992:Nat)*2^(a1 d.m - 53)=2^a1 d.m:=by
    rw[show (9007199254740992:Nat)=2^53 by decide,←Nat.pow_add];congr 1;omega
   omega
  unfold vY
  split<;>omega
def dm (w:Nat):a8:=match Ieee.double.read w with
 | .number s m e=>mk s m e
 |_=>⟨false,0,0⟩
def Fin (w:Nat):Prop:=∃s m e,Ieee.double.read w= .number s m e
theorem yy {w:Nat} {s:Bool} {m:Nat} {e:Int} (h:Ieee.double.read w= .number s m e):dm w=mk s m e:=by unfold dm;rw[h]
theorem ams (s:Bool) (m k:Nat):Ieee.signed s m k=dQ s m*2^k:=by
 unfold Ieee.signed dQ
 rw[Nat.shiftLeft_eq]
 cases s
 ·simp only[Bool.false_eq_true,if_false];rw[Int.natCast_mul,Int.natCast_pow];rfl
 ·simp only[if_true];rw[Int.natCast_mul,Int.natCast_pow,Int.neg_mul];rfl
theorem apK {x y:Nat} (aj:Fin x) (hy:Fin y):∃E:Int,((dm x).m≠0→E≤(dm x).e)∧((dm y).m≠0→E≤(dm y).e)∧Ieee.double.order x y=some (compare ((dm x).V E) ((dm y).V E)):=by
 obtain⟨s,m,i,aj⟩:=aj
 obtain⟨t,n,j,hy⟩:=hy
 refine⟨min i j,?_,?_,?_⟩
 ·rw[yy aj];exact kg (by omega)
 ·rw[yy hy];exact kg (by omega)
 ·unfold Ieee.Format.order
  rw[aj,hy,yy aj,yy hy,su _ _ (by omega),su _ _ (by omega)]
  simp only[Ieee.Datum.order,ams]
end RV
namespace RV.Dr
open RV RR
set_option linter.unusedSimpArgs false
set_option linter.unusedVariables false
set_option maxRecDepth 100000
def kO (d:a8):R:=az d.m*ax d.e
theorem Jg (d:a8):bc d=if d.neg=true then -kO d else kO d:=by
 rw[kl (E:=d.e) (fun _=>Int.le_refl _)]
 unfold a8.V kO
 rw[Int.sub_self,show (2:Int)^(0:Int).toNat=1 from rfl,Int.mul_one]
 unfold dQ
 cases d.neg
 ·rfl
 ·simp only[if_true];rw[hI];grind
theorem asy (n:Nat):0≤az (n:Int):=by
 have:az 0≤az (n:Int):=dU.2 (by omega)
 rwa [jO]at this
theorem apL (d:a8):0≤kO d:=b0 (asy _) (by have:=c8 d.e;grind)
theorem Sc (n k:Nat):az ((n*2^k:Nat):Int)=az n*ax k:=by rw[jP,iZ]
theorem an4 {d:a8} (h:d.m≠0):az (hD d)*ax (dC d)+az (hD d)*ax (dC d)≤kO d+kO d+ax (dC d)∧kO d+kO d≤az (hD d)*ax (dC d)+az (hD d)*ax (dC d)+ax (dC d):=by
 have ajs:=c8 (dC d)
 unfold hD kO
 split
 ·rename_i hle
  have aN:az ((d.m*2^(53 - a1 d.m):Nat):Int)*ax (dC d)=az d.m*ax d.e:=by
   rw[Sc]
   have:ax d.e=ax ((53 - a1 d.m:Nat):Int)*ax (dC d):=by
    rw[←g7];congr 1;unfold dC;omega
   rw[this];grind
  rw[aN]
  constructor<;>grind
 ·rename_i awz
  obtain⟨k,ad⟩:∃k,k=a1 d.m - 53:=⟨_,rfl⟩
  have eq:dC d=d.e+k:=by unfold dC;omega
  rw[←ad,eq,g7]
  obtain⟨h1,h2⟩:=an3 d.m k
  generalize vY d.m k=n at*
  have ze:=c8 d.e
  have ayK:=c8 (k:Int)
  have ct:az ((2*d.m:Nat):Int)≤az ((2*n*2^k+2^k:Nat):Int):=oR.2 h1
  have db:az ((2*n*2^k:Nat):Int)≤az ((2*d.m+2^k:Nat):Int):=oR.2 h2
  rw[jm,Sc,iZ,jP,jP]at ct
  rw[jm,Sc,iZ,jP,jP]at db
  have aX:az ((2:Nat):Int)=1+1:=by rw[show ((2:Nat):Int)=1+1 from rfl,gH,e2]
  rw[aX]at ct db
  have e0:=b0 (show 0≤(1+1)*az (n:Int)*ax k+ax k - (1+1)*az d.m by grind) (show 0≤ax d.e by grind)
  have gw:=b0 (show 0≤(1+1)*az d.m+ax k - (1+1)*az (n:Int)*ax k by grind) (show 0≤ax d.e by grind)
  constructor<;>grind
theorem NK {d:a8} (h:d.m≠0):az (4503599627370496:Nat)*ax (dC d)≤kO d∧kO d≤az (9007199254740992:Nat)*ax (dC d):=by
 have a:=AL h
 have b:=Nat.le_of_lt (kG d.m)
 have ze:=c8 d.e
 have aw:=qR h
 have aN:az (4503599627370496:Nat)*ax (dC d)=az ((2^(a1 d.m - 1):Nat):Int)*ax d.e:=by
  rw[iZ,←g7,show (4503599627370496:Nat)=2^52 by decide,iZ,←g7];congr 1;unfold dC;omega
 have aX:az (9007199254740992:Nat)*ax (dC d)=az ((2^a1 d.m:Nat):Int)*ax d.e:=by
  rw[iZ,←g7,show (9007199254740992:Nat)=2^53 by decide,iZ,←g7];congr 1;unfold dC;omega
 rw[aN,aX]
 unfold kO
 have ct:az ((2^(a1 d.m - 1):Nat):Int)≤az d.m:=oR.2 a
 have db:az d.m≤az ((2^a1 d.m:Nat):Int):=oR.2 b
 have e0:=b0 (show 0≤az d.m - az ((2^(a1 d.m - 1):Nat):Int)by grind) (show 0≤ax d.e by grind)
 have gw:=b0 (show 0≤az ((2^a1 d.m:Nat):Int) - az d.m by grind) (show 0≤ax d.e by grind)
 constructor<;>grind
def hE (r:Nat):Nat:=4503599627370496+r % 4503599627370496
def iw (r:Nat):Int:=((r / 4503599627370496:Nat):Int) - 1075
def eI (r:Nat):R:=az (hE r)*ax (iw r)
theorem NL {q:Int} {n:Nat} (h1:4503599627370496≤n) (h2:n<9007199254740992) (aO: -1074≤q):hE (rg q n)=n∧iw (rg q n)=q:=by
 obtain⟨f,rfl⟩:∃f,n=4503599627370496+f:=⟨n - 4503599627370496,by omega⟩
 obtain⟨a,b⟩:=SC (Q:=(q+1074).toNat) (show f<4503599627370496 by omega)
 unfold hE iw rg
 rw[a,b]
 exact⟨rfl,by omega⟩
theorem Sd {r:Nat} (h:4503599627370496≤r):rg (iw r) (hE r)=r∧4503599627370496≤hE r∧hE r<9007199254740992∧-1074≤iw r:=by
 have aD:1≤r / 4503599627370496:=(Nat.le_div_iff_mul_le (by decide)).2 (by rw[Nat.one_mul];exact h)
 have hm:=Nat.mod_lt r (show 4503599627370496>0 by decide)
 have ar:=Nat.div_add_mod r 4503599627370496
 unfold rg iw hE
 generalize r / 4503599627370496=a at*
 generalize r % 4503599627370496=b at*
 obtain⟨c,rfl⟩:∃c,a=c+1:=⟨a - 1,by omega⟩
 have e:(((c+1:Nat):Int) - 1075+1074).toNat=c:=by omega
 rw[e]
 refine⟨?_,by omega,by omega,by omega⟩
 rw[Nat.mul_succ,Nat.mul_comm,Nat.add_assoc]at ar
 exact ar
theorem NM {q:Int} {n:Nat} (h1:4503599627370496≤n) (h2:n≤9007199254740992) (aO: -1074≤q):eI (rg q n)=az n*ax q:=by
 unfold eI
 by_cases h:n<9007199254740992
 ·obtain⟨a,b⟩:=NL h1 h aO
  rw[a,b]
 ·obtain rfl:n=9007199254740992:=by omega
  rw[IX q aO]
  obtain⟨a,b⟩:=NL (q:=q+1) (n:=4503599627370496) (Nat.le_refl _) (by decide) (by omega)
  rw[a,b,fk,show (9007199254740992:Nat)=4503599627370496+4503599627370496 by decide,jm]
  grind
theorem M5 {r:Nat} (h:4503599627370496≤r):eI (r+1)=(az (hE r)+1)*ax (iw r):=by
 obtain⟨a,b,c,d⟩:=Sd h
 have e:r+1=rg (iw r) (hE r+1):=by
  rw[←a]
  have:=NL b c d
  rw[this.1,this.2]
  unfold rg;omega
 rw[e,NM (by omega) (by omega) d,jm,oN]
theorem Jh {r:Nat} (h:4503599627370496≤r):eI r<eI (r+1):=by
 rw[M5 h]
 unfold eI
 have:=c8 (iw r)
 grind
theorem qT {r s:Nat} (h:4503599627370496≤r) (l:r≤s):eI r≤eI s:=by
 obtain⟨d,rfl⟩:∃d,s=r+d:=⟨s - r,by omega⟩
 clear l
 induction d with
 |zero=>exact(by grind:eI r≤eI r)
 |succ d cJ=>have:=Jh (r:=r+d) (by omega);rw[show r+(d+1)=r+d+1 by omega];grind
theorem u0 (r:Nat):0<eI r:=by
 unfold eI
 have a:az ((1:Nat):Int)≤az (hE r):=oR.2 (by unfold hE;omega)
 rw[oN]at a
 have b:=c8 (iw r)
 have:=uS (show 0<az (hE r)by have:=uT;grind) b
 exact this
def rV (r:Nat) (y:R):Prop:=eI (r - 1)+eI r≤y+y∧y+y≤eI r+eI (r+1)
theorem an5 {d:a8} (h:d.m≠0) (aO: -1073≤dC d):rV (rg (dC d) (hD d)) (kO d):=by
 obtain⟨ew,eN⟩:=EG h
 obtain⟨aN,aX⟩:=an4 h
 obtain⟨t1,t2⟩:=NK h
 generalize hD d=n at*
 generalize dC d=q at*
 have ajs:=c8 q
 have v:=NM ew eN (show -1074≤q by omega)
 constructor
 ·by_cases aJ:n=4503599627370496
  ·subst aJ
   have e:rg q 4503599627370496 - 1=rg (q - 1) 9007199254740991:=by
    have:=IX (q - 1) (by omega)
    rw[show q - 1+1=q by omega]at this
    rw[←this];unfold rg;omega
   rw[e,NM (q:=q - 1) (by decide) (by decide) (by omega),v]
   have cc:az ((9007199254740991:Nat):Int)+1=az ((4503599627370496:Nat):Int)+az ((4503599627370496:Nat):Int):=by
    rw[←jm,←oN,←jm]
   have cN:ax q=ax (q - 1)+ax (q - 1):=by rw[←fk];congr 1;omega
   have p1:=c8 (q - 1)
   have dN:az ((9007199254740991:Nat):Int)*ax (q - 1)=az ((4503599627370496:Nat):Int)*ax q - ax (q - 1):=by
    rw[show az ((9007199254740991:Nat):Int)=az ((4503599627370496:Nat):Int)+az ((4503599627370496:Nat):Int) - 1 by rw[←cc];grind,cN]
    grind
   rw[dN]
   clear dN cc cN e v aN aX t2
   grind
  ·have e:rg q n - 1=rg q (n - 1):=by unfold rg;omega
   rw[e,NM (by omega) (by omega) (by omega),v]
   have cc:az ((n - 1:Nat):Int)=az n - 1:=by rw[aal (by omega),oN]
   rw[cc];grind
 ·by_cases aJ:n=9007199254740992
  ·have sN:4503599627370496≤rg q n:=by unfold rg;omega
   have:=Jh sN
   rw[v]at this⊢
   have az0:kO d≤az (n:Int)*ax q:=by rw[aJ];exact t2
   grind
  ·have sN:4503599627370496≤rg q n:=by unfold rg;omega
   have g:=NL ew (by omega) (show -1074≤q by omega)
   rw[M5 sN,v,g.1,g.2]
   grind
theorem an6 {r s:Nat} {y:R} (ar:4503599627370497≤r) (aE:4503599627370497≤s) (h:rV r y) (k:rV s y) (aJ:∀t,4503599627370496≤t→y+y≠eI t+eI (t+1)):r=s:=by
 have key:∀{r s:Nat},4503599627370497≤r→rV r y→rV s y→¬r<s:=by
  intro r s ar h k bl
  have a:=qT (r:=r) (s:=s - 1) (by omega) (by omega)
  have b:=qT (r:=r+1) (s:=s) (by omega) (by omega)
  have h2:=h.2
  have bh:=k.1
  exact aJ r (by omega) (by grind)
 have:=key ar h k
 have:=key aE k h
 omega
end RV.Dr
namespace RV.Dr
open Go RV RR
set_option linter.unusedSimpArgs false
set_option linter.unusedVariables false
set_option maxRecDepth 100000
def dI (w:Nat):R:=bc (dm w)
theorem ES (neg:Bool) (m:Nat) (e:Int):bc (mk neg m e)=if neg=true then -(az m*ax e)else az m*ax e:=by
 rw[kl (E:=e) (kg (Int.le_refl _)),su _ _ (Int.le_refl _),Int.sub_self,show (2:Int)^(0:Int).toNat=1 from rfl,Int.mul_one]
 unfold dQ
 cases neg
 ·rfl
 ·simp only[if_true];rw[hI];grind
theorem uU:Fin 0:=⟨false,0,-1074,by decide⟩
theorem yg:dI 0=0:=by
 unfold dI
 rw[yy (w:=0) (s:=false) (m:=0) (e:= -1074) (by decide)]
 exact IU rfl
theorem aa0 {r:Nat} (h:r<9218868437227405312):iw r≤971:=by
 unfold iw
 have:r / 4503599627370496<2047:=(Nat.div_lt_iff_lt_mul (by decide)).2 (by exact h)
 omega
theorem Nr {s:Bool} {r:Nat} (h1:4503599627370496≤r) (h2:r<9218868437227405312):Ieee.double.read (wd s r)= .number s (hE r) (iw r):=by
 obtain⟨a,b,c,d⟩:=Sd h1
 have:=apJ (neg:=s) b c d (aa0 h2)
 rwa [a]at this
theorem gZ {s:Bool} {r:Nat} (h1:4503599627370496≤r) (h2:r<9218868437227405312):Fin (wd s r):=⟨_,_,_,Nr h1 h2⟩
theorem jS {s:Bool} {r:Nat} (h1:4503599627370496≤r) (h2:r<9218868437227405312):dI (wd s r)=if s=true then -eI r else eI r:=by
 unfold dI
 rw[yy (Nr h1 h2),ES]
 rfl
theorem Cy {x y:Nat} (aj:Fin x) (hy:Fin y):(Ieee.double.order x y=some .lt↔dI x<dI y)∧(Ieee.double.order x y=some .eq↔dI x=dI y)∧(Ieee.double.order x y=some .gt↔dI y<dI x):=by
 obtain⟨E,cI,dS,h⟩:=apK aj hy
 have p:=c8 E
 have aN:dI x=az ((dm x).V E)*ax E:=kl cI
 have aX:dI y=az ((dm y).V E)*ax E:=kl dS
 have lt:∀a b:Int,az a*ax E<az b*ax E↔a<b:=fun a b=>by
  constructor
  ·intro h
   by_cases et:a<b
   ·exact et
   ·have:=b0 (show 0≤az a - az b by have:=dU.2 (show b≤a by omega);grind) (show 0≤ax E by grind)
    grind
  ·intro h
   have:=uS (show 0<az b - az a by have:=l3.2 h;grind) p
   grind
 rw[h,aN,aX,lt,lt]
 refine⟨?_,?_,?_⟩
 ·simp[Int.compare_eq_lt]
 ·rw[Option.some.injEq,Int.compare_eq_eq]
  constructor
  ·intro h;rw[h]
  ·intro h
   have a:=not_congr (lt ((dm x).V E) ((dm y).V E))
   have b:=not_congr (lt ((dm y).V E) ((dm x).V E))
   have c:¬(dm x).V E<(dm y).V E:=a.1 (by grind)
   have d:¬(dm y).V E<(dm x).V E:=b.1 (by grind)
   omega
 ·simp[Int.compare_eq_gt]
theorem apM {x y:Nat} (aj:Fin x) (hy:Fin y):flt x y=true↔dI x<dI y:=by
 unfold flt;rw[beq_iff_eq];exact(Cy aj hy).1
theorem IY {x y:Nat} (aj:Fin x) (hy:Fin y):cW x y=true↔dI x=dI y:=by
 unfold cW;rw[beq_iff_eq];exact(Cy aj hy).2.1
theorem Ns {x y:Nat} (aj:Fin x) (hy:Fin y):um x y=true↔dI y<dI x:=by
 unfold um;rw[beq_iff_eq];exact(Cy aj hy).2.2
theorem Se {x y:Nat} (aj:Fin x) (hy:Fin y):BL x y=true↔dI x≤dI y:=by
 unfold BL;rw[Bool.or_eq_true,beq_iff_eq,beq_iff_eq,(Cy aj hy).1,(Cy aj hy).2.1]
 constructor
 ·intro h;rcases h with h|h<;>grind
 ·intro h;by_cases e:dI x=dI y
  ·exact .inr e
  ·exact .inl (by grind)
theorem apN {x y:Nat} (aj:Fin x) (hy:Fin y):Ku x y=true↔dI y≤dI x:=by
 unfold Ku;rw[Bool.or_eq_true,beq_iff_eq,beq_iff_eq,(Cy aj hy).2.2,(Cy aj hy).2.1]
 constructor
 ·intro h;rcases h with h|h<;>grind
 ·intro h;by_cases e:dI x=dI y
  ·exact .inr e
  ·exact .inl (by grind)
theorem tr {x:Nat} (aj:Fin x):cW x x=true:=(IY aj aj).2 rfl
theorem arB {s t:Bool} {r q:Nat} (h1:4503599627370496≤r) (aq:4503599627370496≤q) (h2:r<9218868437227405312) (aK:q<9218868437227405312) (h:dI (wd s r)=dI (wd t q)):s=t∧r=q:=by
 rw[jS h1 h2,jS aq aK]at h
 have p1:=u0 r
 have cq:=u0 q
 have key:eI r=eI q→r=q:=by
  intro e
  rcases Nat.lt_trichotomy r q with l|l|l
  ·have a:=Jh h1
   have b:=qT (r:=r+1) (s:=q) (by omega) l
   grind
  ·exact l
  ·have a:=Jh aq
   have b:=qT (r:=q+1) (s:=r) (by omega) l
   grind
 cases s<;>cases t
 ·exact⟨rfl,key h⟩
 ·simp only[Bool.false_eq_true,if_false,if_true]at h;grind
 ·simp only[Bool.false_eq_true,if_false,if_true]at h;grind
 ·simp only[Bool.false_eq_true,if_false,if_true]at h;exact⟨rfl,key (by grind)⟩
theorem AQ {w:Nat} (h:Fin w):eL w=w:=by
 obtain⟨s,m,e,h⟩:=h
 unfold eL
 rw[h];rfl
theorem alm {y w:Nat} (h:Fin w) (e:eL y=w):y=w:=by
 unfold eL at e
 split at e
 ·obtain⟨s,m,i,h⟩:=h
  rw[←e]at h
  have:Ieee.double.read E6= .nan false 2251799813685249:=by decide
  rw[this]at h;cases h
 ·exact e
theorem MM {d:a8} (aD:qf d):cT d=0∧d.m=0∨d.m≠0∧∃r,4503599627370497≤r∧r<9218868437227405311∧cT d=wd d.neg r∧rV r (kO d):=by
 unfold cT
 by_cases h:d.m=0
 ·rw[if_pos h];exact .inl ⟨rfl,h⟩
 ·rw[if_neg h]
  have aO:=aD h
  have dP: -1053≤dC d:=by unfold dC;omega
  have fw:dC d≤947:=by unfold dC;omega
  obtain⟨ew,eN⟩:=EG h
  refine .inr ⟨h,_,?_,?_,rfl,an5 h (by unfold dC;omega)⟩
  ·unfold rg
   obtain⟨k,ad⟩:∃k,(dC d+1074).toNat=k+1:=⟨(dC d+1074).toNat - 1,by omega⟩
   rw[ad,Nat.succ_mul]
   generalize k*4503599627370496=z
   omega
  ·unfold rg
   have ad:(dC d+1074).toNat≤2021:=by omega
   have:=Nat.mul_le_mul_right 4503599627370496 ad
   exact Nat.lt_of_le_of_lt (Nat.add_le_add this eN) (by decide)
theorem IA {d:a8} (aD:qf d):Fin (cT d):=by
 rcases MM aD with ⟨e,_⟩|⟨_,r,h1,h2,e,_⟩
 ·rw[e];exact uU
 ·rw[e];exact gZ (by omega) (by omega)
theorem RF {d e:a8} (aD:qf d) (he:qf e):cW (cT d) (cT e)=decide (cT d=cT e):=by
 by_cases h:cT d=cT e
 ·rw[←h,tr (IA aD)];simp
 ·have:cW (cT d) (cT e)=false:=by
   rw[Bool.eq_false_iff]
   intro hf
   rw[IY (IA aD) (IA he)]at hf
   apply h
   rcases MM aD with ⟨aN,_⟩|⟨_,r,h1,h2,aN,_⟩<;>rcases MM he with ⟨aX,_⟩|⟨_,q,aq,aK,aX,_⟩
   ·rw[aN,aX]
   ·rw[aN,aX,yg,jS (by omega) (by omega)]at hf
    have:=u0 q
    split at hf<;>grind
   ·rw[aN,aX,yg,jS (by omega) (by omega)]at hf
    have:=u0 r
    split at hf<;>grind
   ·rw[aN,aX]at hf⊢
    obtain⟨a,b⟩:=arB (by omega) (by omega) (by omega) (by omega) hf
    rw[a,b]
  rw[this];simp[h]
end RV.Dr
namespace RV.Dr
open Go RV RR
set_option linter.unusedSimpArgs false
set_option linter.unusedVariables false
set_option maxRecDepth 100000
theorem wrap64 {n:Nat} (h:n<18446744073709551616):IntKind.u64.wrap (n:Int)=n:=by
 unfold IntKind.wrap
 simp only[show IntKind.u64.bits=64 from rfl,show IntKind.u64.signed=false from rfl,Bool.false_and,Bool.false_eq_true,if_false]
 omega
theorem Db {n:Nat} (h:n<18446744073709551616):(BitVec.ofInt IntKind.u64.bits (n:Int)).toNat=n:=by
 rw[BitVec.ofInt_natCast,BitVec.toNat_ofNat,Nat.mod_eq_of_lt]
 exact h
theorem ZG (k:Nat) (ad:k≤62) {n:Nat} (h:n<18446744073709551616):iH .u64 (n:Int) ((2^k - 1:Nat):Int)=((n % 2^k:Nat):Int):=by
 unfold iH
 have aQ:2^k≤2^62:=Nat.pow_le_pow_right (by decide) ad
 rw[BitVec.toNat_and,Db h,Db (by omega),Nat.and_two_pow_sub_one_eq_mod,wrap64]
 exact Nat.lt_of_le_of_lt (Nat.mod_le _ _) h
theorem YH {n:Nat} (h:n<18446744073709551616):iH .u64 (n:Int) 4503599627370495=((n % 4503599627370496:Nat):Int):=ZG 52 (by decide) h
theorem ZH {n:Nat} (h:n<18446744073709551616):iH .u64 (n:Int) 2047=((n % 2048:Nat):Int):=ZG 11 (by decide) h
theorem aby {n:Nat} (h:n<18446744073709551616):(~~~ (BitVec.ofInt IntKind.u64.bits (n:Int))).toNat=18446744073709551615 - n:=by
 rw[BitVec.toNat_not,Db h]
 rfl
theorem atE {n:Nat} (h:n<18446744073709551616):CF .u64 (n:Int) 9223372036854775808=((n % 9223372036854775808:Nat):Int):=by
 unfold CF
 have e:=aby (n:=9223372036854775808) (by decide)
 rw[BitVec.toNat_and,Db h]
 rw[show (~~~ (BitVec.ofInt IntKind.u64.bits (9223372036854775808:Int))).toNat=9223372036854775807 from e]
 have:n &&& 9223372036854775807=n % 9223372036854775808:=Nat.and_two_pow_sub_one_eq_mod n 63
 rw[this,wrap64]
 exact Nat.lt_of_le_of_lt (Nat.mod_le _ _) h
theorem asz {n:Nat} (h:n<9223372036854775808):CF .u64 (n:Int) 9218868437227405312=((n % 4503599627370496:Nat):Int):=by
 unfold CF
 have e:=aby (n:=9218868437227405312) (by decide)
 rw[BitVec.toNat_and,Db (by omega)]
 rw[show (~~~ (BitVec.ofInt IntKind.u64.bits (9218868437227405312:Int))).toNat=9227875636482146303 from e]
 have a:n &&& 9223372036854775807=n % 9223372036854775808:=Nat.and_two_pow_sub_one_eq_mod n 63
 have b:n &&& 4503599627370495=n % 4503599627370496:=Nat.and_two_pow_sub_one_eq_mod n 52
 have c:n &&& 9227875636482146303=n % 4503599627370496:=by
  rw[←b]
  have:n=n &&& 9223372036854775807:=by rw[a,Nat.mod_eq_of_lt h]
  conv=>lhs;rw[this]
  rw[Nat.and_assoc]
  rfl
 rw[c,wrap64]
 exact Nat.lt_of_le_of_lt (Nat.mod_le _ _) (by omega)
theorem apO {a b k c:Nat} (a6:a<2^k) (aw:b=2^k*c) (h:a+b<18446744073709551616):vF .u64 (a:Int) (b:Int)=((a+b:Nat):Int):=by
 unfold vF
 rw[BitVec.toNat_or,Db (by omega),Db (by omega)]
 have:=Nat.two_pow_add_eq_or_of_lt a6 c
 rw[←aw]at this
 rw[Nat.or_comm,←this,Nat.add_comm b a,wrap64 h]
theorem CW {s:Bool} {r:Nat} (h:r<9223372036854775808):wd s r<18446744073709551616:=by unfold wd;split<;>omega
theorem Ji {s:Bool} {r:Nat} (h:r<9223372036854775808):wd s r % 9223372036854775808=r:=(NJ (neg:=s) h).2
theorem arC (s:Bool) {r:Nat} (h:r<9223372036854775808):wd s r^^^9223372036854775808=wd (!s) r:=by
 have e:r^^^9223372036854775808=9223372036854775808+r:=by
  have:=Nat.two_pow_add_eq_or_of_lt (i:=63) (b:=r) h 1
  rw[Nat.mul_one]at this
  rw[show (9223372036854775808:Nat)=2^63 by decide,this]
  apply Nat.eq_of_testBit_eq
  intro i
  rw[Nat.testBit_xor,Nat.testBit_or]
  by_cases hi:i=63
  ·subst hi
   rw[Nat.testBit_lt_two_pow h];simp
  ·rw[Nat.testBit_two_pow_of_ne (Ne.symm hi)];simp
 cases s
 ·exact e
 ·show (9223372036854775808+r)^^^9223372036854775808=r
  rw[←e,Nat.xor_assoc,Nat.xor_self,Nat.xor_zero]
theorem IZ {s:Bool} {r:Nat} (h1:4503599627370496≤r) (h2:r<9218868437227405312):hb (wd s r)=wd (!s) r:=by
 unfold hb
 have:Op.negFloat .f64 (wd s r)=wd (!s) r:=arC s (by omega)
 rw[this,AQ (gZ h1 h2)]
theorem YI:hb 0=9223372036854775808:=by decide
theorem ZI {s t:Bool} {r:Nat} (h1:4503599627370496≤r) (h2:r<9218868437227405312):Bp (wd t 4607182418800017408) (wd s r)=wd (t^^s) r:=by
 obtain⟨a,b,c,d⟩:=Sd h1
 have aO:=aa0 h2
 unfold Bp Ieee.Format.mul
 rw[Nr h1 h2]
 rw[Nr (s:=t) (r:=4607182418800017408) (by decide) (by decide)]
 show uk (some (Ieee.double.nearest (t^^s) (hE 4607182418800017408*hE r) (iw 4607182418800017408+iw r)))=_
 have aN:hE 4607182418800017408=4503599627370496:=by decide
 have aX:iw 4607182418800017408= -52:=by decide
 rw[aN,aX,Qw (n:=hE r) (k:=52) b c d aO (Nat.mul_comm _ _) (show iw r= -52+iw r+((52:Nat):Int)by omega),a]
 unfold uk
 exact AQ (gZ h1 h2)
theorem YJ {n:Nat} (h1:4503599627370496≤n) (h2:n≤9007199254740992):EI (n:Int)=rg 0 n:=by
 unfold EI
 have b8:FloatKind.f64.nearest (n:Int)=Ieee.double.nearest false n 0:=by
  show Ieee.double.nearest (decide ((n:Int)<0)) ((n:Int)).natAbs 0=_
  rw[show decide ((n:Int)<0)=false by simp,Int.natAbs_natCast]
 have e:FloatKind.f64.nearest (n:Int)=wd false (rg 0 n):=by
  rw[b8]
  by_cases h:n<9007199254740992
  ·exact Qw (n:=n) (k:=0) h1 h (by decide) (by decide) (by rw[Nat.pow_zero,Nat.mul_one]) rfl
  ·obtain rfl:n=9007199254740992:=by omega
   rw[IX 0 (by decide)]
   exact Qw (n:=4503599627370496) (k:=1) (by decide) (by decide) (by decide) (by decide) (by decide) rfl
 rw[e,AQ]
 ·rfl
 ·refine gZ ?_ ?_
  ·unfold rg;omega
  ·unfold rg
   rw[show ((0:Int)+1074).toNat=1074 by decide]
   exact Nat.lt_of_le_of_lt (Nat.add_le_add (Nat.le_refl _) h2) (by decide)
end RV.Dr
namespace RV.Dr
open Go RV RR
set_option linter.unusedSimpArgs false
set_option linter.unusedVariables false
set_option maxRecDepth 100000
set_option maxHeartbeats 4000000
theorem Jj {w:Nat} (h:Fin w) (P:Nat→Prop):(∀y:Nat,eL y=w→P y)=P w:=
 propext ⟨fun k=>k w (AQ h),fun k y e=>by rw[alm h e];exact k⟩
theorem ET (n:Nat) (f:Nat→Prop):RV.cs n f=f n:=rfl
def qg:br where
 pre:=fun ds=>∃w:Nat,ds=[.flt w]∧Fin w
 res:=fun ds=> .bool false
theorem Gm (Γ:Env) (ds:List D) (h:qg.pre ds):bK Γ adQ adR ds fun d=>d=qg.res ds:=by
 obtain⟨w,rfl,hw⟩:=h
 have e:=tr hw
 simp (maxSteps:=9^9) only[↓al,ak,simprocAttr,adQ,adR,qg,e,Bool.not_true]
def j2:br where
 pre:=fun ds=>∃w:Nat,ds=[.flt w]∧Fin w∧Fin (w % 9223372036854775808)∧w<18446744073709551616
 res:=fun ds=>match ds with
  |[.flt w]=> .flt (w % 9223372036854775808)
  |_=> .nilp
theorem Hr (Γ:Env) (ds:List D) (h:j2.pre ds):bK Γ afG afH ds fun d=>d=j2.res ds:=by
 obtain⟨w,rfl,fJ,Pm,hw⟩:=h
 have hu:=atE hw
 have bO:j2.res [.flt w]= .flt (w % 9223372036854775808):=rfl
 rw[bO]
 have ay:eL (w % 9223372036854775808)=w % 9223372036854775808:=AQ Pm
 generalize w % 9223372036854775808=r at*
 have lL:=Jj fJ
 simp (maxSteps:=9^9) only[↓al,ak,simprocAttr,afG,afH,lL,hu,ay,Int.toNat_natCast,ET]
theorem aa1 {s:Bool} {r:Nat} (h1:4503599627370496≤r) (h2:r<9218868437227405312):j2.pre [.flt (wd s r)]:=
 ⟨_,rfl,gZ h1 h2,by rw[Ji (by omega)];exact gZ (s:=false) h1 h2,CW (by omega)⟩
def ua:br where
 pre:=fun ds=>∃(s:Bool) (r:Nat),ds=[.flt (wd s r),.int .i64 0]∧4503599627370496≤r∧r<9218868437227405312
 res:=fun ds=> .bool false
theorem Gn (Γ:Env) (Lm:Γ.has 63 j2) (ds:List D) (h:ua.pre ds):bK Γ aca acb ds fun d=>d=ua.res ds:=by
 obtain⟨s,r,rfl,h1,h2⟩:=h
 have hm:=Ji (s:=s) (show r<9223372036854775808 by omega)
 have kB:j2.pre [.flt (wd s r)]:=aa1 h1 h2
 have kC:j2.res [.flt (wd s r)]= .flt r:=by simp only[j2,hm]
 have bb:um (wd false r) (wd false 9218868437227405311)=false:=by
  rw[Bool.eq_false_iff]
  intro hf
  rw[Ns (gZ (s:=false) h1 h2) (gZ (s:=false) (r:=9218868437227405311) (by decide) (by decide))]at hf
  have a:dI (wd false r)=eI r:=jS (s:=false) h1 h2
  have b:dI (wd false 9218868437227405311)=eI 9218868437227405311:=jS (s:=false) (r:=9218868437227405311) (by decide) (by decide)
  rw[a,b]at hf
  have:=qT h1 (show r≤9218868437227405311 by omega)
  grind
 have bb:um r 9218868437227405311=false:=bb
 simp (maxSteps:=9^9) only[↓al,ak,simprocAttr,aca,acb,ua,Lm,kB,kC,bb]
def ub:br where
 pre:=fun ds=>∃(s:Bool) (r:Nat),ds=[.flt (wd s r)]∧4503599627370496≤r∧r<9218868437227405312
 res:=fun ds=>match ds with
  |[.flt w]=> .du [.flt w,.int .i64 0]
  |_=> .nilp
theorem Gp (Γ:Env) (Lm:Γ.has 63 j2) (ds:List D) (h:ub.pre ds):bK Γ acK acL ds fun d=>d=ub.res ds:=by
 obtain⟨s,r,rfl,h1,h2⟩:=h
 have hm:=Ji (s:=s) (show r<9223372036854775808 by omega)
 have kB:j2.pre [.flt (wd s r)]:=aa1 h1 h2
 have kC:j2.res [.flt (wd s r)]= .flt r:=by simp only[j2,hm]
 have bb:flt (wd false r) (wd false 4503599627370496)=false:=by
  rw[Bool.eq_false_iff]
  intro hf
  rw[apM (gZ (s:=false) h1 h2) (gZ (s:=false) (r:=4503599627370496) (by decide) (by decide))]at hf
  have a:dI (wd false r)=eI r:=jS (s:=false) h1 h2
  have b:dI (wd false 4503599627370496)=eI 4503599627370496:=jS (s:=false) (r:=4503599627370496) (by decide) (by decide)
  rw[a,b]at hf
  have:=qT (r:=4503599627370496) (by decide) h1
  grind
 have bb:flt r 4503599627370496=false:=bb
 simp (maxSteps:=9^9) only[↓al,ak,simprocAttr,acK,acL,ub,Lm,kB,kC,bb]
def Ln (w:Nat) (q:Int):Nat:=((w:Int)+q*((4503599627370496:Nat):Int)).toNat
def mg:br where
 pre:=fun ds=>∃(ep q:Int) (n:Nat),ds=[.flt (rg ep n),.int .i64 q]∧4503599627370496≤n∧n<9007199254740992∧-1000≤ep∧ep≤900∧-1074≤ep+q∧ep+q≤971
 res:=fun ds=>match ds with
  |[.flt w,.int _ q]=> .flt (Ln w q)
  |_=> .nilp
theorem Jk {ep q:Int} {n:Nat} (h0: -1000≤ep) (h: -1074≤ep+q):Ln (rg ep n) q=rg (ep+q) n:=by
 unfold Ln rg
 obtain⟨a,rfl⟩:∃a:Nat,ep=(a:Int) - 1000:=⟨(ep+1000).toNat,by omega⟩
 obtain⟨b,aw⟩:∃b:Nat,(a:Int) - 1000+q=(b:Int) - 1074:=⟨((a:Int) - 1000+q+1074).toNat,by omega⟩
 rw[aw,show ((a:Int) - 1000+1074).toNat=a+74 by omega,show ((b:Int) - 1074+1074).toNat=b by omega]
 have:q=(b:Int) - ((a+74:Nat):Int):=by omega
 subst this
 generalize (4503599627370496:Nat)=B at*
 generalize a+74=c
 rw[Int.natCast_add,Int.natCast_mul,Int.sub_mul]
 rw[show (c:Int)*B+n+(b*B - c*B)=(b:Int)*B+n by omega,←Int.natCast_mul,←Int.natCast_add]
 exact Int.toNat_natCast _
theorem Gq (Γ:Env) (atF:Γ.has 203 ua) (T4:Γ.has 178 qg) (atG:Γ.has 204 ub) (ds:List D) (h:mg.pre ds):bK Γ acG acH ds fun d=>d=mg.res ds:=by
 obtain⟨ep,q,n,rfl,h1,h2,cj,ej,bM,aW⟩:=h
 have bO:mg.res [.flt (rg ep n),.int .i64 q]= .flt (rg (ep+q) n):=by simp only[mg,Jk cj bM]
 rw[bO]
 obtain⟨Q,rfl⟩:∃Q:Nat,ep=(Q:Int) - 1000:=⟨(ep+1000).toNat,by omega⟩
 obtain⟨f,rfl⟩:∃f,n=4503599627370496+f:=⟨n - 4503599627370496,by omega⟩
 have je:4503599627370496≤rg ((Q:Int) - 1000) (4503599627370496+f):=by unfold rg;omega
 have lv:=E4 h2 (show -1074≤(Q:Int) - 1000 by omega) (by omega)
 have yU:4503599627370496≤rg ((Q:Int) - 1000+q) (4503599627370496+f):=by unfold rg;omega
 have yV:=E4 h2 bM aW
 obtain⟨ayN,ajp⟩:=SC (B:=4503599627370496) (Q:=((Q:Int) - 1000+1074).toNat) (f:=f) (by omega)
 have fJ:=gZ (s:=false) je lv
 have lL:=Jj fJ
 have xO:ua.pre [.flt (rg ((Q:Int) - 1000) (4503599627370496+f)),.int .i64 0]:=⟨false,_,rfl,je,lv⟩
 have Az:qg.pre [.flt (rg ((Q:Int) - 1000) (4503599627370496+f))]:=⟨_,rfl,fJ⟩
 have qL:ub.pre [.flt (rg ((Q:Int) - 1000) (4503599627370496+f))]:=⟨false,_,rfl,je,lv⟩
 have bp:cW (rg ((Q:Int) - 1000) (4503599627370496+f)) 0=false:=by
  rw[Bool.eq_false_iff]
  intro hf
  have hf:cW (wd false (rg ((Q:Int) - 1000) (4503599627370496+f))) 0=true:=hf
  rw[IY fJ uU,yg,jS je lv]at hf
  have:=u0 (rg ((Q:Int) - 1000) (4503599627370496+f))
  simp only[Bool.false_eq_true,if_false]at hf
  grind
 have lL:∀P:Nat→Prop,(∀y:Nat,eL y=rg ((Q:Int) - 1000) (4503599627370496+f)→P y)=P (rg ((Q:Int) - 1000) (4503599627370496+f)):=lL
 have hdiv:((rg ((Q:Int) - 1000) (4503599627370496+f):Nat):Int).fdiv 4503599627370496=(Q:Int)+75:=by
  rw[Int.fdiv_eq_ediv_of_nonneg _ (by decide)]
  rw[show ((rg ((Q:Int) - 1000) (4503599627370496+f):Nat):Int) / 4503599627370496=((rg ((Q:Int) - 1000) (4503599627370496+f) / 4503599627370496:Nat):Int)from rfl]
  unfold rg
  rw[ajp];omega
 have hand:iH .i64 ((Q:Int)+75) 2047=(Q:Int)+75:=by
  rw[show (2047:Int)=((2^11 - 1:Nat):Int)by decide,Ev 11 (by decide)]
  omega
 have GJ:CF .u64 ((rg ((Q:Int) - 1000) (4503599627370496+f):Nat):Int) 9218868437227405312=(f:Int):=by
  rw[asz (by omega)]
  unfold rg
  rw[ayN]
 obtain⟨T,cy⟩:∃T:Nat,(Q:Int) - 1000+q=(T:Int) - 1074:=⟨((Q:Int) - 1000+q+1074).toNat,by omega⟩
 have az1:T≤2045:=by omega
 have az2:q=(T:Int) - (Q:Int) - 74:=by omega
 have hex:q+((Q:Int)+75 - 1023)+1023=((T+1:Nat):Int):=by omega
 have hw:IntKind.u64.wrap ((T+1:Nat):Int)=((T+1:Nat):Int):=wrap64 (by omega)
 have mI:((T+1:Nat):Int)*4503599627370496=(((T+1)*4503599627370496:Nat):Int):=(Int.natCast_mul _ _).symm
 have bl:(T+1)*4503599627370496≤2046*4503599627370496:=Nat.mul_le_mul_right _ (by omega)
 have Ai:IntKind.u64.wrap (((T+1)*4503599627370496:Nat):Int)=(((T+1)*4503599627370496:Nat):Int):=wrap64 (Nat.lt_of_le_of_lt bl (by decide))
 have Du:vF .u64 (f:Int) (((T+1)*4503599627370496:Nat):Int)=((f+(T+1)*4503599627370496:Nat):Int):=
  apO (k:=52) (c:=T+1) (show f<4503599627370496 by omega) (Nat.mul_comm _ _) (Nat.lt_of_le_of_lt (Nat.add_le_add (Nat.le_of_lt (show f<4503599627370496 by omega)) bl) (by decide))
 have awA:f+(T+1)*4503599627370496=rg ((Q:Int) - 1000+q) (4503599627370496+f):=by
  unfold rg
  rw[cy,show ((T:Int) - 1074+1074).toNat=T by omega,Nat.succ_mul]
  generalize T*4503599627370496=z
  omega
 rw[awA]at Du
 have ay:eL (rg ((Q:Int) - 1000+q) (4503599627370496+f))=rg ((Q:Int) - 1000+q) (4503599627370496+f):=AQ (gZ (s:=false) yU yV)
 have hm:Bp 4607182418800017408 (rg ((Q:Int) - 1000+q) (4503599627370496+f))=rg ((Q:Int) - 1000+q) (4503599627370496+f):=ZI (s:=false) (t:=false) yU yV
 generalize rg ((Q:Int) - 1000+q) (4503599627370496+f)=z at*
 generalize rg ((Q:Int) - 1000) (4503599627370496+f)=y at*
 have xP:ua.res [.flt y,.int .i64 0]= .bool false:=rfl
 have AA:qg.res [.flt y]= .bool false:=rfl
 have qM:ub.res [.flt y]= .du [.flt y,.int .i64 0]:=rfl
 have bR:¬(q+((Q:Int)+75 - 1023)< -1075):=by omega
 have bS:¬(q+((Q:Int)+75 - 1023)>1023):=by omega
 have hj:¬(q+((Q:Int)+75 - 1023)< -1022):=by omega
 simp (maxSteps:=9^9) only[↓al,ak,simprocAttr,acG,acH,bp,atF,T4,atG,xO,Az,qL,xP,AA,qM,lL,hdiv,hand,Int.add_zero,bR,bS,hj,hex,hw,mI,Ai,GJ,Du,ay,hm,ET,Int.toNat_natCast]
 have HD:aI q:=by simp only[aI];omega
 have P7:aI ((Q:Int)+75):=by simp only[aI];omega
 have Wq:aI ((Q:Int)+75 - 1023):=by simp only[aI];omega
 have ayO:aI (q+((Q:Int)+75 - 1023)):=by simp only[aI];omega
 have ayP:aI ((T+1:Nat):Int):=by simp only[aI];omega
 exact⟨HD,P7,Wq,ayO,ayP⟩
end RV.Dr
namespace RV.Dr
open Go RV RR
set_option linter.unusedSimpArgs false
set_option linter.unusedVariables false
set_option maxRecDepth 100000
set_option maxHeartbeats 4000000
def uc:br where
 pre:=fun ds=>∃xs:List Int,ds=[.ints .i64 xs]
 res:=fun ds=>match ds with
  |[x]=> .fn 210 [] [.ptr [x]]
  |_=> .nilp
theorem Gr (Γ:Env) (ds:List D) (h:uc.pre ds):bK Γ adY adZ ds fun d=>d=uc.res ds:=by
 obtain⟨w,rfl⟩:=h
 simp (maxSteps:=9^9) only[↓al,ak,simprocAttr,adY,adZ,uc]
def zQ:k0 where
 pre:=fun ds=>∃xs:List Int,ds=[.ptr [.ints .i64 xs]]∧xs.length≤100000
 seq:=fun ds k=>match ds with
  |[.ptr [.ints _ xs]]=>if k<xs.length then some [.int .i64 (xs.length - 1 - k),.int .i64 (xs.getD (xs.length - 1 - k) 0)]else none
  |_=>none
theorem Gs (Γ:Env) (ds:List D) (h:zQ.pre ds) (M L:Nat):zO Γ (zQ.seq ds) M L ad0 ds:=by
 obtain⟨xs,rfl,aH⟩:=h
 have ahY:∀k,k<xs.length→zQ.seq [.ptr [.ints .i64 xs]] k=some [.int .i64 (xs.length - 1 - k),.int .i64 (xs.getD (xs.length - 1 - k) 0)]:=fun k ad=>by simp only[zQ];rw[if_pos ad]
 have PS:∀k,¬k<xs.length→zQ.seq [.ptr [.ints .i64 xs]] k=none:=fun k ad=>by simp only[zQ];rw[if_neg ad]
 generalize zQ.seq [.ptr [.ints .i64 xs]]=E at ahY PS⊢
 have ov:(rO L [.ptr [.ints .i64 xs]]).af 0= .dv L:=rfl
 have s1:(rO L [.ptr [.ints .i64 xs]]).af 1= .d (.ptr [.ints .i64 xs]):=rfl
 unfold zO ad0
 generalize rO L [.ptr [.ints .i64 xs]]=s at ov s1⊢
 refine sa (fun s=>s.af 0= .dv L∧s.af 1= .d (.ptr [.ints .i64 xs])∧s.af 3= .d (.int .i64 ((xs.length:Int) - 1 - ((0:Nat):Int)))) rfl ?_ ?_
 ·simp (maxSteps:=9^9) only[↓al,ak,simprocAttr,ov,s1,Int.natCast_zero,Int.sub_zero]
  ((repeat' apply And.intro)<;>first|assumption|with_reducible rfl|omega|(simp only[aI];omega)|exact⟨_,rfl⟩|exact⟨_,_,_,rfl⟩|exact⟨_,_,_,_,_,_,rfl⟩)
 clear ov s1
 rintro s ⟨h0,h1,aq⟩
 refine Cx ?_
 refine Mv (fun z s=>∃k:Nat,z=⟨k,true⟩∧k≤xs.length∧s.af 0= .dv L∧s.af 1= .d (.ptr [.ints .i64 xs])∧s.af 3= .d (.int .i64 ((xs.length:Int) - 1 - (k:Int)))) (fun z _=>M - z.k) ⟨0,rfl,Nat.zero_le _,h0,h1,aq⟩ ?_
 clear h0 h1 aq
 rintro z s ⟨k,rfl,ad,h0,h1,aq⟩
 refine zC (fun z s=>z=⟨k,true⟩∧k<xs.length∧s.af 0= .dv L∧s.af 1= .d (.ptr [.ints .i64 xs])∧s.af 3= .d (.int .i64 ((xs.length:Int) - 1 - (k:Int)))) ?_ ?_
 ·refine k3 _ rfl ?_
  by_cases bl:k<xs.length
  ·have c:(xs.length:Int) - 1 - (k:Int)≥0:=by omega
   simp (maxSteps:=9^9) only[↓al,ak,simprocAttr,h0,h1,aq,c,bl]
   try trivial
  ·have c:¬((xs.length:Int) - 1 - (k:Int)≥0):=by omega
   simp (maxSteps:=9^9) only[↓al,ak,simprocAttr,h0,h1,aq,c]
   exact PS k bl
 clear ad h0 h1 aq
 rintro z s ⟨rfl,bl,h0,h1,aq⟩
 obtain⟨j,aF⟩:∃j:Nat,(xs.length:Int) - 1 - (k:Int)=(j:Int):=⟨xs.length - 1 - k,by omega⟩
 have Ar:xs.length - 1 - k=j:=by omega
 have o7:(j:Int)<(xs.length:Int):=by omega
 have atH:j<xs.length:=by omega
 have B7:=ahY k bl
 rw[aF,Ar]at B7
 rw[aF]at aq
 refine zC (fun z s=>z=⟨k+1,true⟩∧k+1<M∧s.af 0= .dv L∧s.af 1= .d (.ptr [.ints .i64 xs])∧s.af 3= .d (.int .i64 (j:Int))) ?_ ?_
 ·refine Cx ?_
  refine zC (fun z s=>(z=⟨k+1,true⟩∧k+1<M∧s.af 18= .d (.bool false)∧s.af 0= .dv L∧s.af 1= .d (.ptr [.ints .i64 xs])∧s.af 3= .d (.int .i64 (j:Int)))∨(z=⟨k,false⟩∧s.af 18= .d (.bool true))) ?_ ?_
  rotate_left
  ·clear h0 h1 aq
   rintro z s (⟨rfl,cp,pe,h0,h1,aq⟩|⟨rfl,pe⟩)
   ·refine k3 _ rfl ?_
    simp (maxSteps:=9^9) only[↓al,ak,simprocAttr,pe]
    exact⟨cp,h0,h1,aq⟩
   ·refine k3 _ rfl ?_
    simp (maxSteps:=9^9) only[↓al,ak,simprocAttr,pe]
  show hL Γ E M L _ _ _ _
  refine Ra 6 (fun s=>s.af 11= .dv L∧s.af 12= .d (.int .i64 (j:Int))∧s.af 16= .d (.int .i64 (xs.getD j 0))∧s.af 0= .dv L∧s.af 1= .d (.ptr [.ints .i64 xs])∧s.af 3= .d (.int .i64 (j:Int))) rfl ?_ ?_
  ·simp only[List.take_succ_cons,List.take_zero]
   simp (maxSteps:=9^9) only[↓al,ak,simprocAttr,h0,h1,aq,EN,Er,o7,atH,Int.toNat_natCast]
   first|done|((repeat' apply And.intro)<;>first|assumption|with_reducible rfl|omega|(simp only[aI];omega)|exact⟨_,rfl⟩|exact⟨_,_,_,rfl⟩|exact⟨_,_,_,_,_,_,rfl⟩)
  clear h0 h1 aq
  rintro s ⟨cv,cA,uz,h0,h1,aq⟩
  show hL Γ E M L _ (⟨some 17,.hJ (.t 11) [.t 12,.t 16],none⟩::_) _ _
  have Li:cr s [.t 12,.t 16]=[.d (.int .i64 (j:Int)),.d (.int .i64 (xs.getD j 0))]:=by simp only[cr,List.map_cons,List.map_nil,St.aU,cA,uz]
  refine QI (ds:=[.int .i64 (j:Int),.int .i64 (xs.getD j 0)]) cv (by rw[Li];rfl) (by rw[Li];rfl) rfl B7 (fun cp=> ?_) ?_
  ·have iR:=Rb h0
   have bh:=yf h1
   have c2:=yf aq
   have cp:k+1<M:=cp
   generalize s.still=ef at iR bh c2⊢
   refine zv rfl ?_
   simp (maxSteps:=9^9) only[↓al,ak,simprocAttr,iR,bh,c2,cp]
   first|done|(exact .inl ⟨_,rfl⟩)|(simp;done)
  ·refine zv rfl ?_
   simp (maxSteps:=9^9) only[↓al,ak,simprocAttr]
   first|done|(simp;done)
 ·clear h0 h1 aq
  rintro z s ⟨rfl,cp,h0,h1,aq⟩
  refine k3 _ rfl ?_
  simp (maxSteps:=9^9) only[↓al,ak,simprocAttr,h0,h1,aq]
  refine⟨by simp only[aI];omega,⟨⟨k+1,rfl,by omega,by rw[show (j:Int) - 1=(xs.length:Int) - 1 - ((k+1:Nat):Int)by omega]⟩,by omega⟩⟩
theorem an7 {a b k c:Nat} (a6:a<2^k) (aw:b=2^k*c) (h:a+b<9223372036854775808):vF .i64 (b:Int) (a:Int)=((a+b:Nat):Int):=by
 rw[←Z6 a6 aw h]
 unfold vF
 rw[BitVec.or_comm]
theorem apP {xs:List Int} (aj:ch xs) {k:Nat} (ad:k<xs.length):val (xs.drop (xs.length - (k+1)))=(xs.getD (xs.length - 1 - k) 0).toNat+16777216*val (xs.drop (xs.length - k)):=by
 have:=qQ xs (xs.length - (k+1))
 rwa [show xs.length - (k+1)+1=xs.length - k by omega,show (xs.getD (xs.length - (k+1)) 0)=xs.getD (xs.length - 1 - k) 0 by congr 1;omega]at this
theorem X1 {xs:List Int} (aj:ch xs) (k:Nat):val (xs.drop k)≤val xs:=by rw[H6 aj];exact Nat.div_le_self _ _
def mh:br where
 pre:=fun ds=>∃m:Nat,ds=[aZ m]∧a1 m≤62
 res:=fun ds=>match ds with
  |[.ints _ xs]=> .du [.int .i64 (val xs),.bool true]
  |_=> .nilp
def abz:Nat→Option k0:=fun f=>if f=210 then some zQ else none
theorem Gt (Γ:Env) (Dc:Γ.has 128 gN) (aeD:Γ.has 206 uc) (ds:List D) (h:mh.pre ds):zN Γ abz adn ado ds fun d=>d=mh.res ds:=by
 obtain⟨m,rfl,aw⟩:=h
 have bO:mh.res [aZ m]= .du [.int .i64 m,.bool true]:=by simp only[mh,aZ,bT]
 rw[bO]
 have dz:=c4 m
 have hm:m<2^62:=ho.1 aw
 have hlen:(au m).length≤3:=x7 (by omega)
 have ie:gN.pre [.ints .i64 (au m)]:=⟨m,rfl,by omega⟩
 have hl:gN.res [.ints .i64 (au m)]= .int .i64 (a1 m):=by simp only[gN,bT]
 have aB:val (au m)=m:=bT m
 have dr:¬((a1 m:Int)>62):=by omega
 unfold aZ
 generalize au m=xs at*
 have DC:val (xs.drop xs.length)=0:=by rw[List.drop_length];rfl
 unfold zN adn
 refine qU (fun s=>s.af 0= .d (.ints .i64 xs)) ?_ ?_
 ·show cb Γ _ _ _
  simp (maxSteps:=9^9) only[↓al,ak,simprocAttr]
 rintro s h0
 refine qU (fun s=>s.af 0= .d (.ints .i64 xs)) ?_ ?_
 ·show cb Γ _ _ _
  simp (maxSteps:=9^9) only[↓al,ak,simprocAttr,h0,Dc,ie,hl,dr]
 clear h0
 rintro s h0
 refine qU (fun s=>s.af 0= .d (.ints .i64 xs)∧s.af 4= .box 4 0∧s.aA 4=some ⟨false,false,.cells [.d (.int .i64 ((val (xs.drop xs.length):Nat):Int))]⟩) ?_ ?_
 ·show cb Γ _ _ _
  simp (maxSteps:=9^9) only[↓al,ak,simprocAttr,h0,DC,Int.natCast_zero]
 clear h0
 rintro s ⟨h0,aK,a9⟩
 refine qU (fun s=>s.af 4= .box 4 0∧s.aA 4=some ⟨false,false,.cells [.d (.int .i64 (m:Int))]⟩) ?_ ?_
 ·refine qU (fun s=>s.af 11= .d (.fn 210 [] [.ptr [.ints .i64 xs]])∧s.af 4= .box 4 0∧s.aA 4=some ⟨false,false,.cells [.d (.int .i64 ((val (xs.drop xs.length):Nat):Int))]⟩) ?_ ?_
  ·show cb Γ _ _ _
   have fV:uc.pre [.ints .i64 xs]:=⟨xs,rfl⟩
   have rc:uc.res [.ints .i64 xs]= .fn 210 [] [.ptr [.ints .i64 xs]]:=rfl
   simp (maxSteps:=9^9) only[↓al,ak,simprocAttr,h0,aK,a9,aeD,fV,rc]
  clear h0 aK a9
  rintro s ⟨cv,aK,a9⟩
  have jG:abz 210=some zQ:=rfl
  simp only[iM,St.aU,cv,jG]
  refine⟨⟨xs,rfl,by omega⟩,fun k s=>k≤xs.length∧s.af 4= .box 4 0∧s.aA 4=some ⟨false,false,.cells [.d (.int .i64 ((val (xs.drop (xs.length - k)):Nat):Int))]⟩,xs.length+1,by omega,⟨Nat.zero_le _,?_,?_⟩,?_,?_⟩
  ·simp only[St.only];rw[if_neg (by decide)];exact aK
  ·exact a9
  ·clear cv aK a9
   rintro k aC s ad DN ⟨yZ,aK,a9⟩
   have DN:(if k<xs.length then some [D.int .i64 (xs.length - 1 - k),D.int .i64 (xs.getD (xs.length - 1 - k) 0)]else none)=some aC:=DN
   split at DN
   ·rename_i bl
    simp only[Option.some.injEq]at DN
    subst DN
    refine⟨rfl,?_⟩
    have ae:=apP dz bl
    have hle:=X1 dz (xs.length - (k+1))
    obtain⟨x,aj⟩:∃x,x=xs.getD (xs.length - 1 - k) 0:=⟨_,rfl⟩
    have ahZ:0≤x∧x<16777216:=by
     rw[aj,List.getD_eq_getElem?_getD,List.getElem?_eq_getElem (by omega)]
     exact dz _ (List.getElem_mem _)
    rw[←aj]at ae⊢
    obtain⟨X,rfl⟩:∃X:Nat,x=(X:Int):=⟨x.toNat,by omega⟩
    rw[Int.toNat_natCast]at ae
    rw[aB]at hle
    obtain⟨a,a6⟩:∃a,a=val (xs.drop (xs.length - k)):=⟨_,rfl⟩
    obtain⟨b,ly⟩:∃b,b=val (xs.drop (xs.length - (k+1))):=⟨_,rfl⟩
    rw[←a6]at a9 ae
    rw[←ly]at ae hle
    have Du:vF .i64 ((a:Int)*16777216) (X:Int)=(b:Int):=by
     rw[show (a:Int)*16777216=((16777216*a:Nat):Int)by omega,an7 (k:=24) (c:=a) (by omega) rfl (by omega),ae]
    simp only[Fh]
    have ah0:((s.put (some 12) (c3 (.int .i64 (xs.length - 1 - k)))).put (some 13) (c3 (.int .i64 (X:Int)))).af 13= .d (.int .i64 (X:Int)):=rfl
    have cN:((s.put (some 12) (c3 (.int .i64 (xs.length - 1 - k)))).put (some 13) (c3 (.int .i64 (X:Int)))).af 4= .box 4 0:=aK
    have f4:((s.put (some 12) (c3 (.int .i64 (xs.length - 1 - k)))).put (some 13) (c3 (.int .i64 (X:Int)))).aA 4=_:=a9
    generalize (s.put (some 12) (c3 (.int .i64 (xs.length - 1 - k)))).put (some 13) (c3 (.int .i64 (X:Int)))=t at ah0 cN f4⊢
    clear aj ahZ DN a6
    clear dz ie hl Dc aeD
    simp (maxSteps:=9^9) only[↓al,ak,simprocAttr,ah0,cN,f4,Du,II,IJ,List.contains_cons,List.contains_nil,Nat.reduceBEq,Nat.reduceBeqDiff,Bool.or_false,Bool.false_eq_true]
    rw[←ly]
    have hm:m<4611686018427387904:=hm
    have i1:aI ((a:Int)*16777216):=by simp only[aI];clear aB DC f4 a9 ly jG Du;omega
    have i2:k+1≤xs.length:=bl
    refine⟨i1,⟨i2,?_⟩,Nat.succ_lt_succ bl⟩
    exact rfl
   ·cases DN
  ·rintro k s aJ ⟨yZ,aK,a9⟩
   have aJ:(if k<xs.length then some [D.int .i64 (xs.length - 1 - k),D.int .i64 (xs.getD (xs.length - 1 - k) 0)]else none)=none:=aJ
   split at aJ
   ·cases aJ
   ·have:xs.length - k=0:=by omega
    rw[this,List.drop_zero,aB]at a9
    exact⟨none,aK,a9⟩
 ·clear h0 aK a9
  rintro s ⟨aK,a9⟩
  show cb Γ _ _ _
  simp (maxSteps:=9^9) only[↓al,ak,simprocAttr,ado,aK,a9]
end RV.Dr
namespace RV.Dr
open Go RV RR
set_option linter.unusedSimpArgs false
set_option linter.unusedVariables false
set_option maxRecDepth 100000
set_option maxHeartbeats 4000000
def mj:br where
 pre:=mg.pre
 res:=mg.res
theorem Gu (Γ:Env) (atI:Γ.has 196 mg) (ds:List D) (h:mj.pre ds):bK Γ ab2 ab3 ds fun d=>d=mj.res ds:=by
 have aQ:=h
 obtain⟨ep,q,n,rfl,h1,h2,cj,ej,bM,aW⟩:=h
 have aQ:mg.pre [.flt (rg ep n),.int .i64 q]:=aQ
 have ar:mg.res [.flt (rg ep n),.int .i64 q]= .flt (Ln (rg ep n) q):=rfl
 generalize rg ep n=w at*
 simp (maxSteps:=9^9) only[↓al,ak,simprocAttr,ab2,ab3,mj,atI,aQ,ar]
def lH (m:Nat):Nat:=if a1 m≤53 then m*2^(53 - a1 m)else vY m (a1 m - 53)
theorem Sf {m:Nat} (h:m≠0):4503599627370496≤lH m∧lH m≤9007199254740992:=EG (d:=⟨false,m,0⟩) h
def rp:br where
 pre:=fun ds=>∃m:Nat,ds=[aZ m,.int .i64 ((a1 m:Int) - 53)]∧m≠0∧(au m).length≤8000
 res:=fun ds=>match ds with
  |[.ints _ xs,_]=> .flt (rg 0 (lH (val xs)))
  |_=> .nilp
theorem Gv (Γ:Env) (Gw:Γ.has 129 hp) (TX:Γ.has 143 il) (aeE:Γ.has 197 mh) (atJ:Γ.has 139 iK) (BE:Γ.has 134 h3) (OM:Γ.has 131 iJ) (ds:List D) (h:rp.pre ds):bK Γ TB Fk ds fun d=>d=rp.res ds:=by
 obtain⟨m,rfl,h0,aH⟩:=h
 have bO:rp.res [aZ m,.int .i64 ((a1 m:Int) - 53)]= .flt (rg 0 (lH m)):=by simp only[rp,aZ,bT]
 rw[bO]
 have aw:=x3 m
 have gQ:=qR h0
 obtain⟨ew,eN⟩:=Sf h0
 have im:=YJ ew eN
 have ar:aI ((a1 m:Int) - 53):=by simp only[aI];omega
 by_cases ad:a1 m≤53
 ·have e:lH m=m*2^(53 - a1 m):=by unfold lH;rw[if_pos ad]
  rw[e]at ew eN im⊢
  have c:((a1 m:Int) - 53≤0):=by omega
  have Ck:(0:Int) - ((a1 m:Int) - 53)=((53 - a1 m:Nat):Int):=by omega
  have iA:hp.pre [aZ m,.int .i64 ((53 - a1 m:Nat):Int)]:=⟨_,_,rfl,c4 _,by omega,by omega⟩
  have ic:hp.res [aZ m,.int .i64 ((53 - a1 m:Nat):Int)]=aZ (m*2^(53 - a1 m)):=by simp only[hp,aZ,bT,Int.toNat_natCast]
  generalize m*2^(53 - a1 m)=z at*
  have xO:mh.pre [aZ z]:=⟨z,rfl,ho.2 (Nat.lt_of_le_of_lt eN (by decide))⟩
  have xP:mh.res [aZ z]= .du [.int .i64 z,.bool true]:=by simp only[mh,aZ,bT]
  unfold aZ at*
  simp (maxSteps:=9^9) only[↓al,ak,simprocAttr,TB,Fk,c,Ck,Gw,iA,ic,aeE,xO,xP,im]
  try (first|done|((repeat' apply And.intro)<;>first|assumption|with_reducible rfl|omega|(simp only[aI];omega)|exact⟨_,rfl⟩|exact⟨_,_,_,rfl⟩|exact⟨_,_,_,_,_,_,rfl⟩))
 ·obtain⟨K,b9⟩:∃K,a1 m - 53=K+1:=⟨a1 m - 54,by omega⟩
  have e:lH m=vY m (K+1):=by unfold lH;rw[if_neg ad,b9]
  rw[e]at ew eN im⊢
  have ek:(a1 m:Int) - 53=((K+1:Nat):Int):=by omega
  rw[ek]
  have c:¬(((K+1:Nat):Int)≤0):=by omega
  have aN:((K+1:Nat):Int) - 1=(K:Int):=by omega
  have iA:il.pre [aZ m,.int .i64 ((K+1:Nat):Int)]:=⟨_,_,rfl,c4 _,by omega,by simp only[aI];omega⟩
  have ic:il.res [aZ m,.int .i64 ((K+1:Nat):Int)]=aZ (m / 2^(K+1)):=by simp only[il,aZ,bT,Int.toNat_natCast]
  have aO:a1 (m / 2^(K+1))=53:=by rw[Es];omega
  have KG:=Nat.div_add_mod m (2^(K+1))
  have vM:=Nat.mod_lt m (Nat.two_pow_pos (K+1))
  have ah1:2^(K+1)=2*2^K:=by rw[Nat.pow_succ,Nat.mul_comm]
  unfold vY at ew eN im⊢
  rw[Nat.mul_comm]at KG
  have az3:=Nat.two_pow_pos K
  have iL:a1 (m % 2^(K+1))≤a1 m:=tm (Nat.mod_le _ _)
  have DE:a1 (m / 2^(K+1)*2^(K+1))≤a1 m:=tm (by omega)
  have BV:a1 (2^K)≤K+1:=ho.2 (by omega)
  have ct:=gh (m % 2^(K+1))
  have db:=gh (m / 2^(K+1)*2^(K+1))
  have fc:=gh (2^K)
  have xK:=gh (m / 2^(K+1))
  have jZ:=ho.1 (Nat.le_of_eq aO)
  have HQ:hp.res [aZ (m / 2^(K+1)),.int .i64 ((K+1:Nat):Int)]=aZ (m / 2^(K+1)*2^(K+1)):=by simp only[hp,aZ,bT,Int.toNat_natCast]
  have r6:hp.res [aZ 1,.int .i64 (K:Int)]=aZ (2^K):=by simp only[hp,aZ,bT,Int.toNat_natCast,Nat.one_mul]
  have cI:(au 1).length≤1:=x7 (by decide)
  have qJ:h3.pre [.int .i64 1]:=⟨1,rfl,by simp only[aI];omega⟩
  have pA:h3.res [.int .i64 1]=aZ 1:=rfl
  have k2:hp.pre [aZ 1,.int .i64 (K:Int)]:=⟨_,_,rfl,c4 _,by omega,by omega⟩
  have VS:m - m / 2^(K+1)*2^(K+1)=m % 2^(K+1):=by omega
  have bl:¬m<m / 2^(K+1)*2^(K+1):=by omega
  generalize m / 2^(K+1)*2^(K+1)=P at*
  generalize m % 2^(K+1)=R at*
  generalize m / 2^(K+1)=Q at*
  rw[ah1]at ew eN im vM⊢
  clear ah1
  have eC:=x3 R
  generalize 2^K=H at*
  have xO:mh.pre [aZ Q]:=⟨Q,rfl,by omega⟩
  have xP:mh.res [aZ Q]= .du [.int .i64 Q,.bool true]:=by simp only[mh,aZ,bT]
  have LV:hp.pre [aZ Q,.int .i64 ((K+1:Nat):Int)]:=⟨_,_,rfl,c4 _,by omega,by omega⟩
  have LW:iK.pre [aZ m,aZ P]:=⟨m,P,rfl,by omega,by omega⟩
  have LX:iK.res [aZ m,aZ P]= .du [aZ R,.bool true]:=by
   simp only[iK,aZ,bT]
   rw[if_neg bl,VS]
  have fp:iJ.pre [aZ R,aZ H]:=⟨R,H,rfl,by omega,by omega⟩
  have ey:iJ.res [aZ R,aZ H]= .int .i64 (e8 R H):=by simp only[iJ,aZ,bT]
  have cw:(Q:Int)≤9007199254740992:=by omega
  have DY:=Rz Q
  unfold aZ at*
  refine bC (fun s=>s.af 0= .d (.ints .i64 (au m))∧s.af 1= .d (.int .i64 ((K+1:Nat):Int))) ?_ ?_
  ·simp (maxSteps:=9^9) only[↓al,ak,simprocAttr,TB]
  rintro s ⟨h0,h1⟩
  refine bC (fun s=>s.af 0= .d (.ints .i64 (au m))∧s.af 1= .d (.int .i64 ((K+1:Nat):Int))) ?_ ?_
  ·simp (maxSteps:=9^9) only[↓al,ak,simprocAttr,h0,h1,c]
  clear h0 h1
  rintro s ⟨h0,h1⟩
  refine bC (fun s=>s.af 0= .d (.ints .i64 (au m))∧s.af 1= .d (.int .i64 ((K+1:Nat):Int))∧s.af 7= .d (.ints .i64 (au Q))) ?_ ?_
  ·simp (maxSteps:=9^9) only[↓al,ak,simprocAttr,h0,h1,TX,iA,ic]
  clear h0 h1
  rintro s ⟨h0,h1,aS⟩
  refine bC (fun s=>s.af 0= .d (.ints .i64 (au m))∧s.af 1= .d (.int .i64 ((K+1:Nat):Int))∧s.af 7= .d (.ints .i64 (au Q))∧s.af 8= .d (.int .i64 Q)) ?_ ?_
  ·simp (maxSteps:=9^9) only[↓al,ak,simprocAttr,h0,h1,aS,aeE,xO,xP]
  clear h0 h1 aS
  rintro s ⟨h0,h1,aS,bn⟩
  refine bC (fun s=>s.af 1= .d (.int .i64 ((K+1:Nat):Int))∧s.af 8= .d (.int .i64 Q)∧s.af 10= .d (.ints .i64 (au R))) ?_ ?_
  ·simp (maxSteps:=9^9) only[↓al,ak,simprocAttr,h0,h1,aS,bn,Gw,LV,HQ,atJ,LW,LX]
  clear h0 h1 aS bn
  rintro s ⟨h1,bn,bI⟩
  have jF:((1:Int)==0)=false:=rfl
  have da:((0:Int)==0)=true:=rfl
  have WE:((-1:Int)==0)=false:=rfl
  have Qh:((1:Int)==1)=true:=rfl
  have Qe:((-1:Int)==1)=false:=rfl
  have LY:aI ((Q:Int)+1):=by simp only[aI];omega
  have Qi:aI (K:Int):=by simp only[aI];omega
  rcases (by omega:R<H∨R=H∨H<R)with ay|ay|ay
  ·have qH:e8 (R:Int) (H:Int)= -1:=by unfold e8;rw[if_pos (by omega)]
   rw[if_neg (by omega)]at im⊢
   rw[Nat.add_zero]at im⊢
   rw[qH]at ey
   simp (maxSteps:=9^9) only[↓al,ak,simprocAttr,h1,bn,bI,Fk,aN,Qi,BE,qJ,pA,Gw,k2,r6,OM,fp,ey,WE,Qe,im]
  ·have qH:e8 (R:Int) (H:Int)=0:=by unfold e8;rw[if_neg (by omega),if_neg (by omega)]
   rw[qH]at ey
   rcases (by omega:Q % 2=0∨Q % 2=1)with Lo|Lo
   ·rw[if_neg (by omega)]at im⊢
    rw[Nat.add_zero]at im⊢
    rw[show (Q:Int) % 2=0 by omega]at DY
    simp (maxSteps:=9^9) only[↓al,ak,simprocAttr,h1,bn,bI,Fk,aN,Qi,BE,qJ,pA,Gw,k2,r6,OM,fp,ey,da,DY,im]
   ·rw[if_pos (by omega)]at im⊢
    rw[show (Q:Int) % 2=1 by omega]at DY
    have im:EI ((Q:Int)+1)=rg 0 (Q+1):=im
    simp (maxSteps:=9^9) only[↓al,ak,simprocAttr,h1,bn,bI,Fk,aN,Qi,LY,BE,qJ,pA,Gw,k2,r6,OM,fp,ey,da,jF,DY,im]
  ·have qH:e8 (R:Int) (H:Int)=1:=by unfold e8;rw[if_neg (by omega),if_pos (by omega)]
   rw[qH]at ey
   rw[if_pos (by omega)]at im⊢
   have im:EI ((Q:Int)+1)=rg 0 (Q+1):=im
   simp (maxSteps:=9^9) only[↓al,ak,simprocAttr,h1,bn,bI,Fk,aN,Qi,LY,BE,qJ,pA,Gw,k2,r6,OM,fp,ey,jF,Qh,im]
end RV.Dr
namespace RV.Dr
open Go RV RR
set_option linter.unusedSimpArgs false
set_option linter.unusedVariables false
set_option maxRecDepth 100000
set_option maxHeartbeats 4000000
theorem aan {d:a8} (h:d.m≠0) (aD:qf d):∃(ep q:Int) (n:Nat),rg 0 (lH d.m)=rg ep n∧dC d=q∧Ln (rg ep n) q=rg (dC d) (hD d)∧4503599627370496≤n∧n<9007199254740992∧-1000≤ep∧ep≤900∧-1074≤ep+q∧ep+q≤971:=by
 obtain⟨ew,eN⟩:=EG h
 have aO:=aD h
 have dP: -1053≤dC d:=by unfold dC;omega
 have fw:dC d≤947:=by unfold dC;omega
 have e:lH d.m=hD d:=rfl
 rw[e]
 by_cases aJ:hD d<9007199254740992
 ·refine⟨0,dC d,hD d,rfl,rfl,?_,ew,aJ,by omega,by omega,by omega,by omega⟩
  rw[Jk (by omega) (by omega),Int.zero_add]
 ·have aJ:hD d=9007199254740992:=by omega
  refine⟨1,dC d,4503599627370496,?_,rfl,?_,by omega,by omega,by omega,by omega,by omega,by omega⟩
  ·rw[aJ];exact IX 0 (by decide)
  ·rw[Jk (by omega) (by omega),aJ,IX _ (by omega),Int.add_comm]
def lq:br where
 pre:=fun ds=>∃d:a8,ds=[aV d]∧qf d∧(au d.m).length≤8000∧-1000000≤d.e∧d.e≤1000000
 res:=fun ds=>match ds with
  |[x]=> .flt (cT (fj x))
  |_=> .nilp
theorem Gx (Γ:Env) (Dc:Γ.has 128 gN) (aeF:Γ.has 176 rp) (J3:Γ.has 175 mj) (ds:List D) (h:lq.pre ds):bK Γ JK JL ds fun d=>d=lq.res ds:=by
 obtain⟨d,rfl,aD,aH,KC,Dy⟩:=h
 have bO:lq.res [aV d]= .flt (cT d):=by simp only[lq,aV,aZ,ck]
 rw[bO]
 have ie:gN.pre [.ints .i64 (au d.m)]:=⟨_,rfl,by omega⟩
 have hl:gN.res [.ints .i64 (au d.m)]= .int .i64 (a1 d.m):=by simp only[gN,bT]
 have aw:=x3 d.m
 unfold cT aV aZ
 by_cases h0:d.m=0
 ·rw[if_pos h0]
  rw[h0]at ie hl aw⊢
  rw[hv]at ie hl⊢
  have hl:gN.res [.ints .i64 []]= .int .i64 0:=hl
  have i1:aI d.e:=by simp only[aI];omega
  have i2:aI (d.e - 1):=by simp only[aI];omega
  cases aJ:d.neg with
  |false=>
   simp (maxSteps:=9^9) only[↓al,ak,simprocAttr,JK,JL,Dc,ie,hl,Int.add_zero,i1,i2,List.length_nil,Int.natCast_zero,beq_self_eq_true]
  |true=>
   simp (maxSteps:=9^9) only[↓al,ak,simprocAttr,JK,JL,Dc,ie,hl,Int.add_zero,i1,i2,List.length_nil,Int.natCast_zero,beq_self_eq_true]
 ·rw[if_neg h0]
  have hm:=aD h0
  obtain⟨ep,q,n,aN,aX,cc,ew,eN,cj,ej,bM,aW⟩:=aan h0 aD
  have gD:4503599627370496≤rg (dC d) (hD d):=by have:=(EG h0).1;unfold rg;omega
  have Ai:rg (dC d) (hD d)<9218868437227405312:=by
   rw[←cc,Jk cj bM];exact E4 eN bM aW
  have Az:rp.pre [.ints .i64 (au d.m),.int .i64 ((a1 d.m:Int) - 53)]:=⟨d.m,rfl,h0,aH⟩
  have AA:rp.res [.ints .i64 (au d.m),.int .i64 ((a1 d.m:Int) - 53)]= .flt (rg ep n):=by simp only[rp,bT,aN]
  have LZ:mj.pre [.flt (rg ep n),.int .i64 q]:=⟨ep,q,n,rfl,ew,eN,cj,ej,bM,aW⟩
  have L0:mj.res [.flt (rg ep n),.int .i64 q]= .flt (rg (dC d) (hD d)):=by simp only[mj,mg,cc]
  have hmul:Bp (wd d.neg 4607182418800017408) (rg (dC d) (hD d))=wd (d.neg^^false) (rg (dC d) (hD d)):=ZI (s:=false) gD Ai
  have Lp:d.e+(a1 d.m:Int) - 1 - 52=q:=by rw[←aX];unfold dC;omega
  have ek:q - d.e=(a1 d.m:Int) - 53:=by rw[←aX];unfold dC;omega
  generalize rg (dC d) (hD d)=z at*
  generalize rg ep n=y at*
  have bp:(((au d.m).length:Int)==0)=false:=beq_false_of_ne (by have:=x2 h0;omega)
  have bR:¬(d.e+(a1 d.m:Int) - 1< -1080):=by omega
  have bS:¬(d.e+(a1 d.m:Int) - 1>1023):=by omega
  have hj:¬((-1074:Int)>q):=by omega
  have i1:aI (d.e+(a1 d.m:Int)):=by simp only[aI];omega
  have i2:aI (d.e+(a1 d.m:Int) - 1):=by simp only[aI];omega
  have i3:aI q:=by simp only[aI];omega
  have i4:aI ((a1 d.m:Int) - 53):=by simp only[aI];omega
  clear aD aN cc hl
  have hl:gN.res [.ints .i64 (au d.m)]= .int .i64 (a1 d.m):=by simp only[gN,bT]
  cases aJ:d.neg with
  |false=>
   rw[aJ]at hmul
   have hmul:Bp 4607182418800017408 z=wd false z:=hmul
   simp (maxSteps:=9^9) only[↓al,ak,simprocAttr,JK,JL,Dc,ie,hl,i1,i2,bp,bR,bS,Lp,i3,hj,ek,i4,aeF,Az,AA,J3,LZ,L0,hmul]
  |true=>
   rw[aJ]at hmul
   have hmul:Bp 13830554455654793216 z=wd true z:=hmul
   simp (maxSteps:=9^9) only[↓al,ak,simprocAttr,JK,JL,Dc,ie,hl,i1,i2,bp,bR,bS,Lp,i3,hj,ek,i4,aeF,Az,AA,J3,LZ,L0,hmul]
def rq:br where
 pre:=fun ds=>∃w:Nat,ds=[.flt w]∧Fin w∧w<18446744073709551616
 res:=fun ds=>match ds with
  |[.flt w]=> .agg [.int .i64 ((w / 9223372036854775808:Nat):Int),.int .i64 ((w / 4503599627370496 % 2048:Nat):Int),.int .i64 ((w % 4503599627370496:Nat):Int)]
  |_=> .nilp
theorem Gy (Γ:Env) (ds:List D) (h:rq.pre ds):bK Γ ade adf ds fun d=>d=rq.res ds:=by
 obtain⟨w,rfl,fJ,hw⟩:=h
 have lL:=Jj fJ
 have d1:((w:Nat):Int).fdiv 9223372036854775808=((w / 9223372036854775808:Nat):Int):=Int.fdiv_eq_ediv_of_nonneg _ (by decide)
 have d2:((w:Nat):Int).fdiv 4503599627370496=((w / 4503599627370496:Nat):Int):=Int.fdiv_eq_ediv_of_nonneg _ (by decide)
 have d3:iH .u64 ((w / 4503599627370496:Nat):Int) 2047=((w / 4503599627370496 % 2048:Nat):Int):=ZH (Nat.lt_of_le_of_lt (Nat.div_le_self _ _) hw)
 have d4:=YH hw
 have bM:w / 9223372036854775808<2:=(Nat.div_lt_iff_lt_mul (by decide)).2 hw
 have aW:=Nat.mod_lt (w / 4503599627370496) (show 2048>0 by decide)
 have a5:=Nat.mod_lt w (show 4503599627370496>0 by decide)
 have bO:rq.res [.flt w]= .agg [.int .i64 ((w / 9223372036854775808:Nat):Int),.int .i64 ((w / 4503599627370496 % 2048:Nat):Int),.int .i64 ((w % 4503599627370496:Nat):Int)]:=rfl
 rw[bO]
 generalize w / 9223372036854775808=A at*
 generalize w / 4503599627370496 % 2048=B at*
 generalize w / 4503599627370496=DT at*
 generalize w % 4503599627370496=C at*
 have i1:aI (A:Int):=by simp only[aI];omega
 have i2:aI (B:Int):=by simp only[aI];omega
 have i3:aI (C:Int):=by simp only[aI];omega
 simp (maxSteps:=9^9) only[↓al,ak,simprocAttr,ade,adf,lL,d1,d2,d3,d4,i1,i2,i3]
theorem amt {a b:Nat} (h1:a / 9223372036854775808=b / 9223372036854775808) (h2:a / 4503599627370496 % 2048=b / 4503599627370496 % 2048) (aq:a % 4503599627370496=b % 4503599627370496):a=b:=by
 have e:∀x:Nat,x=4503599627370496*(2048*(x / 9223372036854775808)+x / 4503599627370496 % 2048)+x % 4503599627370496:=fun x=>by
  have a:=Nat.div_add_mod x 4503599627370496
  have b:=Nat.div_add_mod (x / 4503599627370496) 2048
  rw[Nat.div_div_eq_div_mul]at b
  rw[show 9223372036854775808=4503599627370496*2048 by decide,b,a]
 rw[e a,e b,h1,h2,aq]
def ud:br where
 pre:=fun ds=>∃a b:Nat,ds=[.flt a,.flt b]∧Fin a∧Fin b∧a<18446744073709551616∧b<18446744073709551616
 res:=fun ds=>match ds with
  |[.flt a,.flt b]=> .bool (cW a b)
  |_=> .nilp
theorem Gz (Γ:Env) (T5:Γ.has 177 rq) (T4:Γ.has 178 qg) (ds:List D) (h:ud.pre ds):bK Γ Ou Ov ds fun d=>d=ud.res ds:=by
 obtain⟨a,b,rfl,a6,aw,b4,dJ⟩:=h
 have kB:rq.pre [.flt a]:=⟨a,rfl,a6,b4⟩
 have L1:rq.pre [.flt b]:=⟨b,rfl,aw,dJ⟩
 have kC:rq.res [.flt a]= .agg [.int .i64 ((a / 9223372036854775808:Nat):Int),.int .i64 ((a / 4503599627370496 % 2048:Nat):Int),.int .i64 ((a % 4503599627370496:Nat):Int)]:=rfl
 have HR:rq.res [.flt b]= .agg [.int .i64 ((b / 9223372036854775808:Nat):Int),.int .i64 ((b / 4503599627370496 % 2048:Nat):Int),.int .i64 ((b % 4503599627370496:Nat):Int)]:=rfl
 have Az:qg.pre [.flt a]:=⟨a,rfl,a6⟩
 have AA:qg.res [.flt a]= .bool false:=rfl
 have aE:(([((a / 9223372036854775808:Nat):Int),((a / 4503599627370496 % 2048:Nat):Int),((a % 4503599627370496:Nat):Int)]==[((b / 9223372036854775808:Nat):Int),((b / 4503599627370496 % 2048:Nat):Int),((b % 4503599627370496:Nat):Int)])=true)→cW a b=true:=by
  intro h
  rw[beq_iff_eq]at h
  simp only[List.cons.injEq,and_true,Int.natCast_inj]at h
  obtain⟨h1,h2,aq⟩:=h
  rw[amt h1 h2 aq,tr aw]
 generalize hA:((a / 9223372036854775808:Nat):Int)=cj at*
 generalize ((a / 4503599627370496 % 2048:Nat):Int)=ej at*
 generalize ((a % 4503599627370496:Nat):Int)=qB at*
 generalize ((b / 9223372036854775808:Nat):Int)=bM at*
 generalize ((b / 4503599627370496 % 2048:Nat):Int)=aW at*
 generalize ((b % 4503599627370496:Nat):Int)=a5 at*
 have bO:ud.res [.flt a,.flt b]= .bool (cW a b):=rfl
 rw[bO]
 cases aO:([cj,ej,qB]==[bM,aW,a5])with
 |true=>
  have hf:=aE aO
  simp (maxSteps:=9^9) only[↓al,ak,simprocAttr,Ou,Ov,T5,kB,L1,kC,HR,ag.yz,sk,q1,aO,hf]
  try trivial
 |false=>
  cases hf:cW a b with
  |true=>
   simp (maxSteps:=9^9) only[↓al,ak,simprocAttr,Ou,Ov,T5,kB,L1,kC,HR,ag.yz,sk,q1,aO,hf]
   try trivial
  |false=>
   simp (maxSteps:=9^9) only[↓al,ak,simprocAttr,Ou,Ov,T5,kB,L1,kC,HR,ag.yz,sk,q1,aO,hf,T4,Az,AA]
   try trivial
end RV.Dr
