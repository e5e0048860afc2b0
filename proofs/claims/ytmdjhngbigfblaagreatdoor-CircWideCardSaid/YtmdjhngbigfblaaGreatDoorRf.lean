/- Lemmas for a claim: an abstract machine for the translated code, proved sound, and contracts of functions. By an AI agent. -/
import Derived.Test.YtmdjhngbigfblaaGreatDoorRb
import Derived.Test.YtmdjhngbigfblaaGreatDoorRd
import Derived.Test.YtmdjhngbigfblaaGreatDoorRc
set_option linter.all false
namespace RV
open Go
def Env.none:Env:=⟨fun _=>Option.none,fun _=>Option.none⟩
def Env.add (Γ:Env) (f:Nat) (C:bC):Env:=⟨fun g=>if g=f then some C else Γ.fn g,Γ.mt⟩
def Env.cg (Γ:Env) (f:Nat) (C:hg):Env:=⟨Γ.fn,fun g=>if g=f then some C else Γ.mt g⟩
theorem ae.none (P:Program) (B:Mem):ae P B Env.none:=⟨(fun f C h=>by cases h),(fun f C h=>by cases h)⟩
theorem ae.add {P:Program} {B:Mem} {Γ:Env} (h:ae P B Γ) {f:Nat} {C:bC} (hf:ld P B f C):ae P B (Γ.add f C):=by
 refine⟨fun g D bh=> ?_,h.2⟩
 simp only[Env.add]at bh
 split at bh
 ·rename_i e;subst e;simp only[Option.some.injEq]at bh;subst bh;exact hf
 ·exact h.1 g D bh
theorem ae.cg {P:Program} {B:Mem} {Γ:Env} (h:ae P B Γ) {f:Nat} {C:hg} (hf:MK P B f C):ae P B (Γ.cg f C):=by
 refine⟨h.1,fun g D bh=> ?_⟩
 simp only[Env.cg]at bh
 split at bh
 ·rename_i e;subst e;simp only[Option.some.injEq]at bh;subst bh;exact hf
 ·exact h.2 g D bh
def bC.below (C:bC) (eI:List D→Nat) (n:Nat):bC:=⟨fun ds=>C.pre ds∧eI ds<n,C.res,C.own⟩
end RV
namespace RV.Dr
open Go RV
set_option linter.unusedSimpArgs false
set_option maxRecDepth 100000
set_option maxHeartbeats 4000000
def aZ (n:Nat):D:= .ints .i64 (ao n)
theorem ac2 (n:Nat):aZ n= .ints .i64 (ao n):=rfl
theorem ak:type_of% (And.intro afG<|And.intro afH<|And.intro afI<|And.intro ac2<|And.intro @decide_true @decide_false):=And.intro afG<|And.intro afH<|And.intro afI<|And.intro ac2<|And.intro @decide_true @decide_false
def iv:bC where
 pre:=fun ds=>∃xs:List Int,ds=[.ints .i64 xs]∧ca xs∧xs.length≤100000
 res:=fun ds=>match ds with
  |[.ints _ xs]=>aZ (val xs)
  |_=> .nilp
theorem DN (Γ:Env) (ds:List D) (h:iv.pre ds):bT Γ RS RT ds fun d=>d=iv.res ds:=by
 obtain⟨xs,rfl,adY,aJ⟩:=h
 simp (maxSteps:=2000000) only[↓al,ak,↓reduceIte,reduceCtorEq,Nat.reduceEqDiff,Nat.reduceLeDiff,Nat.reduceSub,Nat.reduceAdd,Int.reduceToNat,Nat.reducePow,Int.reducePow,Int.reduceLE,Int.reduceLT,IntKind.bits,RS,RT,iv]
 refine bZ (fun s=>∃n:Nat,n≤xs.length∧s.ag 0= .d (.ints .i64 xs)∧s.ag 3= .d (.int .i64 n)∧xs.take n=ao (val xs)) ?_ ?_
 ·refine Pv (fun s=>∃n:Nat,n≤xs.length∧s.ag 0= .d (.ints .i64 xs)∧s.ag 3= .d (.int .i64 n)∧val (xs.take n)=val xs) (fun s=>match s.ag 3 with| .d (.int _ n)=>n.toNat|_=>0) ?_ ?_
  ·refine⟨xs.length,Nat.le_refl _,?_⟩
   simp (maxSteps:=2000000) only[↓al,ak,↓reduceIte,reduceCtorEq,Nat.reduceEqDiff,Nat.reduceLeDiff,Nat.reduceSub,Nat.reduceAdd,Int.reduceToNat,Nat.reducePow,Int.reducePow,Int.reduceLE,Int.reduceLT,IntKind.bits,List.take_length]
  ·rintro s ⟨n,h1,h2,aq,aE⟩
   by_cases aQ:(n:Int)>0
   ·simp (maxSteps:=2000000) only[↓al,ak,↓reduceIte,reduceCtorEq,Nat.reduceEqDiff,Nat.reduceLeDiff,Nat.reduceSub,Nat.reduceAdd,Int.reduceToNat,Nat.reducePow,Int.reducePow,Int.reduceLE,Int.reduceLT,IntKind.bits,h2,aq,aQ]
    rw[show ((n:Int) - 1).toNat=n - 1 by omega]
    refine⟨by simp only[aO];omega,by omega,by omega,?_⟩
    split
    ·rename_i h0
     refine⟨by simp only[aO];omega,⟨n - 1,by omega,by omega,?_⟩,by omega⟩
     have:=W7 (xs:=xs) (n:=n - 1) (by omega) (by simpa using h0)
     rw[show n - 1+1=n by omega]at this
     rw[←this];exact aE
    ·rename_i h0
     exact⟨n,h1,rfl,Kq adY aE (.inr ⟨h1,by simpa using h0⟩)⟩
   ·simp (maxSteps:=2000000) only[↓al,ak,↓reduceIte,reduceCtorEq,Nat.reduceEqDiff,Nat.reduceLeDiff,Nat.reduceSub,Nat.reduceAdd,Int.reduceToNat,Nat.reducePow,Int.reducePow,Int.reduceLE,Int.reduceLT,IntKind.bits,h2,aq,aQ]
    exact⟨n,h1,rfl,Kq adY aE (.inl (by omega))⟩
 ·rintro s ⟨n,h1,h2,aq,aE⟩
  simp (maxSteps:=2000000) only[↓al,ak,↓reduceIte,reduceCtorEq,Nat.reduceEqDiff,Nat.reduceLeDiff,Nat.reduceSub,Nat.reduceAdd,Int.reduceToNat,Nat.reducePow,Int.reducePow,Int.reduceLE,Int.reduceLT,IntKind.bits,h2,aq,aZ]
  refine⟨by omega,by omega,by simp only[List.length_take,b4];omega,?_⟩
  rw[List.take_of_length_le (Nat.le_refl _),aE]
def px:bC where
 pre:=fun ds=>∃(xs:List Int) (i:Nat),ds=[.ints .i64 xs,.int .i64 i]
 res:=fun ds=>match ds with
  |[.ints _ xs,.int _ i]=> .int .i64 (xs.getD i.toNat 0)
  |_=> .nilp
theorem DP (Γ:Env) (ds:List D) (h:px.pre ds):bT Γ RU RW ds fun d=>d=px.res ds:=by
 obtain⟨xs,i,rfl⟩:=h
 simp (maxSteps:=2000000) only[↓al,ak,↓reduceIte,reduceCtorEq,Nat.reduceEqDiff,Nat.reduceLeDiff,Nat.reduceSub,Nat.reduceAdd,Int.reduceToNat,Nat.reducePow,Int.reducePow,Int.reduceLE,Int.reduceLT,IntKind.bits,RU,RW,px]
 split
 ·omega
 ·rw[List.getD_eq_getElem?_getD,List.getElem?_eq_none (by omega)];rfl
def hY:bC where
 pre:=fun ds=>∃xs aB:List Int,ds=[.ints .i64 xs,.ints .i64 aB]∧ca xs∧ca aB∧xs.length≤10000∧aB.length≤10000
 res:=fun ds=>match ds with
  |[.ints _ xs,.ints _ aB]=>aZ (val xs+val aB)
  |_=> .nilp
theorem IX (Γ:Env) (f124:Γ.fn 124=some iv) (q0:Γ.mt 124=none) (f125:Γ.fn 125=some px) (DQ:Γ.mt 125=none) (ds:List D) (h:hY.pre ds):bT Γ U6 U7 ds fun d=>d=hY.res ds:=by
 obtain⟨xs,aB,rfl,aj,hy,da,hK⟩:=h
 simp (maxSteps:=2000000) only[↓al,ak,↓reduceIte,reduceCtorEq,Nat.reduceEqDiff,Nat.reduceLeDiff,Nat.reduceSub,Nat.reduceAdd,Int.reduceToNat,Nat.reducePow,Int.reducePow,Int.reduceLE,Int.reduceLT,IntKind.bits,U6,U7,hY]
 refine bZ (fun s=>∃out:List Int,s.ag 5= .own 5 0 out.length∧s.az 5=some ⟨false,false,.ints .i64 out⟩∧ca out∧out.length≤20000∧val out=val xs+val aB) ?_ ?_
 ·simp (maxSteps:=2000000) only[↓al,ak,↓reduceIte,reduceCtorEq,Nat.reduceEqDiff,Nat.reduceLeDiff,Nat.reduceSub,Nat.reduceAdd,Int.reduceToNat,Nat.reducePow,Int.reducePow,Int.reduceLE,Int.reduceLT,IntKind.bits]
  refine fp (fun s=>∃(out:List Int) (c:Nat),s.ag 0= .d (.ints .i64 xs)∧s.ag 1= .d (.ints .i64 aB)∧s.ag 5= .own 5 0 out.length∧s.az 5=some ⟨false,false,.ints .i64 out⟩∧s.ag 6= .d (.int .i64 c)∧s.ag 7= .d (.int .i64 out.length)∧
   ca out∧out.length≤max xs.length aB.length+1∧(out.length=max xs.length aB.length+1→c=0)∧c≤1∧val out+16777216^out.length*(c+val (xs.drop out.length)+val (aB.drop out.length))=val xs+val aB)
   (fun s=>match s.ag 7,s.ag 6 with| .d (.int _ n),.d (.int _ c)=>2*(max xs.length aB.length+1 - n.toNat)+c.toNat|_,_=>0) ?_ ?_
  ·refine⟨[],0,?_⟩
   simp (maxSteps:=2000000) only[↓al,ak,↓reduceIte,reduceCtorEq,Nat.reduceEqDiff,Nat.reduceLeDiff,Nat.reduceSub,Nat.reduceAdd,Int.reduceToNat,Nat.reducePow,Int.reducePow,Int.reduceLE,Int.reduceLT,IntKind.bits]
   exact⟨rfl,rfl,(fun x aj=>by cases aj),by simp[val]⟩
  ·rintro s ⟨out,c,h0,h1,aF,bm,aN,aM,aJ,bu,ji,au,aC⟩
   by_cases iU:(out.length:Int)<xs.length<;>by_cases kW:(out.length:Int)<aB.length<;>by_cases yB:(c:Int)>0<;>
    simp (maxSteps:=2000000) only[↓al,ak,↓reduceIte,reduceCtorEq,Nat.reduceEqDiff,Nat.reduceLeDiff,Nat.reduceSub,Nat.reduceAdd,Int.reduceToNat,Nat.reducePow,Int.reducePow,Int.reduceLE,Int.reduceLT,IntKind.bits,h0,h1,aF,bm,aN,aM,f125,DQ,px,iU,kW,yB,decide_true,decide_false]
   all_goals
    have eu:=aj.getD out.length
    have g0:=hy.getD out.length
    have xr:∀l:List Int,¬((out.length:Int)<l.length)→l.getD out.length 0=0∧val (l.drop out.length)=0:=fun l h=>by
     rw[List.drop_of_length_le (by omega),List.getD_eq_getElem?_getD,List.getElem?_eq_none (by omega)];exact⟨rfl,rfl⟩
    first
     |(refine⟨out,rfl,rfl,aJ,by omega,?_⟩
       have a4:=(xr xs iU).2
       have bc:=(xr aB kW).2
       have c8:c=0:=by omega
       rw[a4,bc,c8]at aC
       simpa using aC)
     |(have IY:0≤xs.getD out.length 0+aB.getD out.length 0+(c:Int):=by omega
       have fj:=XU (out:=out) (r':=val (xs.drop (out.length+1))+val (aB.drop (out.length+1))) IY aC (by rw[r5 xs out.length,r5 aB out.length];omega)
       have km:(xs.getD out.length 0+aB.getD out.length 0+(c:Int)).tdiv 16777216=(xs.getD out.length 0+aB.getD out.length 0+(c:Int)) / 16777216:=Int.tdiv_eq_ediv_of_nonneg IY
       have jh:(xs.getD out.length 0+aB.getD out.length 0+(c:Int)).tmod 16777216=(xs.getD out.length 0+aB.getD out.length 0+(c:Int)) % 16777216:=Int.tmod_eq_emod_of_nonneg IY
       have a7:((xs.getD out.length 0+aB.getD out.length 0+(c:Int)).tdiv 16777216).toNat≤1:=by rw[km];omega
       refine⟨⟨xs,out.length,rfl⟩,⟨aB,out.length,rfl⟩,by simp only[aO];omega,by simp only[aO];omega,by omega,by simp only[List.length_append,List.length_cons,List.length_nil,b4];omega,by omega,by rw[km];simp only[aO];omega,by simp only[aO];omega,
        ⟨out++[(xs.getD out.length 0+aB.getD out.length 0+(c:Int)).tmod 16777216],((xs.getD out.length 0+aB.getD out.length 0+(c:Int)).tdiv 16777216).toNat,rfl,rfl,by rw[km];omega,by simp,?_,?_,?_,a7,?_⟩,?_⟩
       ·exact aJ.snoc (by rw[jh];omega) (by rw[jh];omega)
       ·simp only[List.length_append,List.length_cons,List.length_nil];omega
       ·simp only[List.length_append,List.length_cons,List.length_nil]
        intro hlen
        have a4:=(xr xs (by omega)).1
        have bc:=(xr aB (by omega)).1
        rw[a4,bc]at km⊢
        rw[km];omega
       ·simpa [Nat.add_assoc]using fj
       ·omega)
 ·rintro s ⟨out,aF,bm,aJ,bu,aC⟩
  simp (maxSteps:=2000000) only[↓al,ak,↓reduceIte,reduceCtorEq,Nat.reduceEqDiff,Nat.reduceLeDiff,Nat.reduceSub,Nat.reduceAdd,Int.reduceToNat,Nat.reducePow,Int.reducePow,Int.reduceLE,Int.reduceLT,IntKind.bits,aF,bm,f124,q0,iv]
  rw[List.take_length]
  exact⟨⟨out,rfl,aJ,by omega⟩,by rw[aC]⟩
def j2:bC where
 pre:=fun ds=>∃xs aB:List Int,ds=[.ints .i64 xs,.ints .i64 aB]∧xs.length≤100000
 res:=fun ds=>match ds with
  |[.ints _ xs,.ints _ aB]=> .bool (decide (xs=aB))
  |_=> .nilp
theorem E0 (Γ:Env) (ds:List D) (h:j2.pre ds):bT Γ EY Ni ds fun d=>d=j2.res ds:=by
 obtain⟨xs,aB,rfl,da⟩:=h
 by_cases aJ:(xs.length:Int)=aB.length
 ·have aw:((xs.length:Int) !=aB.length)=false:=by simpa using aJ
  simp (maxSteps:=2000000) only[↓al,ak,↓reduceIte,reduceCtorEq,Nat.reduceEqDiff,Nat.reduceLeDiff,Nat.reduceSub,Nat.reduceAdd,Int.reduceToNat,Nat.reducePow,Int.reducePow,Int.reduceLE,Int.reduceLT,IntKind.bits,EY,Ni,j2,aw]
  refine bZ (fun s=>xs=aB) ?_ ?_
  ·simp (maxSteps:=2000000) only[↓al,ak,↓reduceIte,reduceCtorEq,Nat.reduceEqDiff,Nat.reduceLeDiff,Nat.reduceSub,Nat.reduceAdd,Int.reduceToNat,Nat.reducePow,Int.reducePow,Int.reduceLE,Int.reduceLT,IntKind.bits,EY]
   refine fp (fun s=>∃n:Nat,s.ag 0= .d (.ints .i64 xs)∧s.ag 1= .d (.ints .i64 aB)∧s.ag 5= .d (.int .i64 n)∧n≤xs.length∧xs.take n=aB.take n) (fun s=>match s.ag 5 with| .d (.int _ n)=>xs.length - n.toNat|_=>0) ?_ ?_
   ·refine⟨0,?_⟩
    simp (maxSteps:=2000000) only[↓al,ak,↓reduceIte,reduceCtorEq,Nat.reduceEqDiff,Nat.reduceLeDiff,Nat.reduceSub,Nat.reduceAdd,Int.reduceToNat,Nat.reducePow,Int.reducePow,Int.reduceLE,Int.reduceLT,IntKind.bits,EY]
    exact⟨rfl,Nat.zero_le _⟩
   ·rintro s ⟨n,h0,h1,aF,aQ,ah⟩
    by_cases au:(n:Int)<xs.length
    ·simp (maxSteps:=2000000) only[↓al,ak,↓reduceIte,reduceCtorEq,Nat.reduceEqDiff,Nat.reduceLeDiff,Nat.reduceSub,Nat.reduceAdd,Int.reduceToNat,Nat.reducePow,Int.reducePow,Int.reduceLE,Int.reduceLT,IntKind.bits,h0,h1,aF,au]
     refine⟨by omega,by omega,by omega,?_⟩
     have hy:n<aB.length:=by omega
     have aj:n<xs.length:=by omega
     have ex:xs.getD n 0=xs[n]:=by rw[List.getD_eq_getElem?_getD,List.getElem?_eq_getElem aj];rfl
     have An:aB.getD n 0=aB[n]:=by rw[List.getD_eq_getElem?_getD,List.getElem?_eq_getElem hy];rfl
     split
     ·rename_i eZ
      have:xs≠aB:=fun e=>by subst e;simp at eZ
      simp[this]
     ·rename_i heq
      refine⟨by simp only[aO];omega,⟨n+1,by omega,by omega,?_⟩,by omega⟩
      rw[List.take_add_one,List.take_add_one,ah,List.getElem?_eq_getElem aj,List.getElem?_eq_getElem hy]
      rw[ex,An]at heq
      have:xs[n]=aB[n]:=by simpa using heq
      rw[this]
    ·simp (maxSteps:=2000000) only[↓al,ak,↓reduceIte,reduceCtorEq,Nat.reduceEqDiff,Nat.reduceLeDiff,Nat.reduceSub,Nat.reduceAdd,Int.reduceToNat,Nat.reducePow,Int.reducePow,Int.reduceLE,Int.reduceLT,IntKind.bits,h0,h1,aF,au]
     rw[List.take_of_length_le (by omega),List.take_of_length_le (by omega)]at ah
     exact ah
  ·intro s aG
   simp (maxSteps:=2000000) only[↓al,ak,↓reduceIte,reduceCtorEq,Nat.reduceEqDiff,Nat.reduceLeDiff,Nat.reduceSub,Nat.reduceAdd,Int.reduceToNat,Nat.reducePow,Int.reducePow,Int.reduceLE,Int.reduceLT,IntKind.bits,aG]
 ·have aw:((xs.length:Int) !=aB.length)=true:=by simpa using aJ
  simp (maxSteps:=2000000) only[↓al,ak,↓reduceIte,reduceCtorEq,Nat.reduceEqDiff,Nat.reduceLeDiff,Nat.reduceSub,Nat.reduceAdd,Int.reduceToNat,Nat.reducePow,Int.reducePow,Int.reduceLE,Int.reduceLT,IntKind.bits,EY,Ni,j2,aw]
  have:xs≠aB:=fun e=>aJ (by rw[e])
  simp[this]
def fJ:bC where
 pre:=fun ds=>∃xs aB:List Int,ds=[.ints .i64 xs,.ints .i64 aB]∧(∃a,xs=ao a)∧(∃b,aB=ao b)∧xs.length≤100000∧aB.length≤100000
 res:=fun ds=>match ds with
  |[.ints _ xs,.ints _ aB]=> .int .i64 (if val xs<val aB then -1 else if val aB<val xs then 1 else 0)
  |_=> .nilp
theorem IZ (Γ:Env) (ds:List D) (h:fJ.pre ds):bT Γ B6 vI ds fun d=>d=fJ.res ds:=by
 obtain⟨xs,aB,rfl,⟨a,a9⟩,⟨b,aw⟩,da,hK⟩:=h
 have WB:val xs=a:=by rw[a9,b5]
 have WC:val aB=b:=by rw[aw,b5]
 have aj:ca xs:=a9▸c5 a
 have hy:ca aB:=aw▸c5 b
 by_cases aJ:(xs.length:Int)=aB.length
 ·have eZ:((xs.length:Int) !=aB.length)=false:=by simpa using aJ
  simp (maxSteps:=2000000) only[↓al,ak,↓reduceIte,reduceCtorEq,Nat.reduceEqDiff,Nat.reduceLeDiff,Nat.reduceSub,Nat.reduceAdd,Int.reduceToNat,Nat.reducePow,Int.reducePow,Int.reduceLE,Int.reduceLT,IntKind.bits,B6,vI,fJ,eZ]
  refine bZ (fun s=>xs=aB) ?_ ?_
  ·simp (maxSteps:=2000000) only[↓al,ak,↓reduceIte,reduceCtorEq,Nat.reduceEqDiff,Nat.reduceLeDiff,Nat.reduceSub,Nat.reduceAdd,Int.reduceToNat,Nat.reducePow,Int.reducePow,Int.reduceLE,Int.reduceLT,IntKind.bits,B6]
   refine⟨by simp only[aO];omega,?_⟩
   refine fp (fun s=>∃n:Nat,s.ag 0= .d (.ints .i64 xs)∧s.ag 1= .d (.ints .i64 aB)∧s.ag 5= .d (.int .i64 ((n:Int) - 1))∧n≤xs.length∧xs.drop n=aB.drop n) (fun s=>match s.ag 5 with| .d (.int _ n)=>(n+1).toNat|_=>0) ?_ ?_
   ·refine⟨xs.length,?_⟩
    simp (maxSteps:=2000000) only[↓al,ak,↓reduceIte,reduceCtorEq,Nat.reduceEqDiff,Nat.reduceLeDiff,Nat.reduceSub,Nat.reduceAdd,Int.reduceToNat,Nat.reducePow,Int.reducePow,Int.reduceLE,Int.reduceLT,IntKind.bits,B6]
    rw[List.drop_of_length_le (Nat.le_refl _),List.drop_of_length_le (by omega)]
   ·rintro s ⟨n,h0,h1,aF,aQ,ah⟩
    by_cases au:(n:Int) - 1≥0
    ·by_cases bR:xs.getD ((n:Int) - 1).toNat 0<aB.getD ((n:Int) - 1).toNat 0<;>by_cases cN:xs.getD ((n:Int) - 1).toNat 0>aB.getD ((n:Int) - 1).toNat 0<;>
      simp (maxSteps:=2000000) only[↓al,ak,↓reduceIte,reduceCtorEq,Nat.reduceEqDiff,Nat.reduceLeDiff,Nat.reduceSub,Nat.reduceAdd,Int.reduceToNat,Nat.reducePow,Int.reducePow,Int.reduceLE,Int.reduceLT,IntKind.bits,h0,h1,aF,au,bR,cN]
     all_goals
      have jm:((n:Int) - 1).toNat=n - 1:=by omega
      rw[jm]at bR cN
      have aL:xs.drop (n - 1+1)=aB.drop (n - 1+1):=by rw[show n - 1+1=n by omega];exact ah
     ·omega
     ·have:=KF aj hy (i:=n - 1) (by omega) (by omega) aL bR
      refine⟨by omega,by omega,?_⟩
      rw[if_pos this]
     ·have:=KF hy aj (i:=n - 1) (by omega) (by omega) aL.symm cN
      refine⟨by omega,by omega,by omega,by omega,?_⟩
      rw[if_neg (by omega),if_pos this]
     ·have he:xs.getD (n - 1) 0=aB.getD (n - 1) 0:=by omega
      refine⟨by omega,by omega,by omega,by omega,by simp only[aO];omega,⟨n - 1,by omega,by omega,?_⟩,by omega⟩
      have h1:n - 1<xs.length:=by omega
      have h2:n - 1<aB.length:=by omega
      rw[List.drop_eq_getElem_cons h1,List.drop_eq_getElem_cons h2,aL]
      rw[List.getD_eq_getElem?_getD,List.getElem?_eq_getElem h1,List.getD_eq_getElem?_getD,List.getElem?_eq_getElem h2]at he
      simp only[Option.getD_some]at he
      rw[he]
    ·simp (maxSteps:=2000000) only[↓al,ak,↓reduceIte,reduceCtorEq,Nat.reduceEqDiff,Nat.reduceLeDiff,Nat.reduceSub,Nat.reduceAdd,Int.reduceToNat,Nat.reducePow,Int.reducePow,Int.reduceLE,Int.reduceLT,IntKind.bits,h0,h1,aF,au]
     rw[show n=0 by omega]at ah
     exact ah
  ·intro s aG
   simp (maxSteps:=2000000) only[↓al,ak,↓reduceIte,reduceCtorEq,Nat.reduceEqDiff,Nat.reduceLeDiff,Nat.reduceSub,Nat.reduceAdd,Int.reduceToNat,Nat.reducePow,Int.reducePow,Int.reduceLE,Int.reduceLT,IntKind.bits,aG]
   simp
 ·have eZ:((xs.length:Int) !=aB.length)=true:=by simpa using aJ
  by_cases bw:(xs.length:Int)<aB.length
  ·simp (maxSteps:=2000000) only[↓al,ak,↓reduceIte,reduceCtorEq,Nat.reduceEqDiff,Nat.reduceLeDiff,Nat.reduceSub,Nat.reduceAdd,Int.reduceToNat,Nat.reducePow,Int.reducePow,Int.reduceLE,Int.reduceLT,IntKind.bits,B6,vI,fJ,eZ,bw]
   have:val xs<val aB:=by
    rw[WB,WC];rw[a9,aw]at bw;exact GD (by omega)
   rw[if_pos this]
  ·simp (maxSteps:=2000000) only[↓al,ak,↓reduceIte,reduceCtorEq,Nat.reduceEqDiff,Nat.reduceLeDiff,Nat.reduceSub,Nat.reduceAdd,Int.reduceToNat,Nat.reducePow,Int.reducePow,Int.reduceLE,Int.reduceLT,IntKind.bits,B6,vI,fJ,eZ,bw]
   have:val aB<val xs:=by
    rw[WB,WC];rw[a9,aw]at bw aJ;exact GD (by omega)
   rw[if_neg (by omega),if_pos this]
def uf:bC where
 pre:=fun ds=>∃n:Int,ds=[.int .i64 n]∧aO n
 res:=fun ds=>match ds with
  |[.int _ n]=>aZ n.toNat
  |_=> .nilp
theorem E1 (Γ:Env) (ds:List D) (h:uf.pre ds):bT Γ IQ U8 ds fun d=>d=uf.res ds:=by
 obtain⟨N,rfl,cb⟩:=h
 simp (maxSteps:=2000000) only[↓al,ak,↓reduceIte,reduceCtorEq,Nat.reduceEqDiff,Nat.reduceLeDiff,Nat.reduceSub,Nat.reduceAdd,Int.reduceToNat,Nat.reducePow,Int.reducePow,Int.reduceLE,Int.reduceLT,IntKind.bits,IQ,U8,uf]
 refine bZ (fun s=>∃out:List Int,s.ag 3= .own 3 0 out.length∧s.az 3=some ⟨false,false,.ints .i64 out⟩∧out=ao N.toNat) ?_ ?_
 ·simp (maxSteps:=2000000) only[↓al,ak,↓reduceIte,reduceCtorEq,Nat.reduceEqDiff,Nat.reduceLeDiff,Nat.reduceSub,Nat.reduceAdd,Int.reduceToNat,Nat.reducePow,Int.reducePow,Int.reduceLE,Int.reduceLT,IntKind.bits,IQ]
  refine fp (fun s=>∃(out:List Int) (n:Int),s.ag 3= .own 3 0 out.length∧s.az 3=some ⟨false,false,.ints .i64 out⟩∧s.ag 0= .d (.int .i64 n)∧n≤N∧aO n∧out.length+(ao n.toNat).length≤1000∧out++ao n.toNat=ao N.toNat) (fun s=>match s.ag 0 with| .d (.int _ n)=>n.toNat|_=>0) ?_ ?_
  ·refine⟨[],N,?_⟩
   simp (maxSteps:=2000000) only[↓al,ak,↓reduceIte,reduceCtorEq,Nat.reduceEqDiff,Nat.reduceLeDiff,Nat.reduceSub,Nat.reduceAdd,Int.reduceToNat,Nat.reducePow,Int.reducePow,Int.reduceLE,Int.reduceLT,IntKind.bits,IQ]
   refine⟨Int.le_refl _,cb,?_⟩
   have:=yT (n:=N.toNat) (k:=3) (by simp only[aO]at cb;omega)
   omega
  ·rintro s ⟨out,n,aq,aW,h0,aQ,ar,hlen,aC⟩
   by_cases au:n>0
   ·simp (maxSteps:=2000000) only[↓al,ak,↓reduceIte,reduceCtorEq,Nat.reduceEqDiff,Nat.reduceLeDiff,Nat.reduceSub,Nat.reduceAdd,Int.reduceToNat,Nat.reducePow,Int.reducePow,Int.reduceLE,Int.reduceLT,IntKind.bits,aq,aW,h0,au]
    have km:n.tdiv 16777216=n / 16777216:=Int.tdiv_eq_ediv_of_nonneg (by omega)
    have jh:n.tmod 16777216=n % 16777216:=Int.tmod_eq_emod_of_nonneg (by omega)
    have a1:ao n.toNat=n.tmod 16777216::ao (n.tdiv 16777216).toNat:=by
     rw[xK (by omega),km,jh,show n.toNat / 16777216=(n / 16777216).toNat by omega,show ((n.toNat % 16777216:Nat):Int)=n % 16777216 by omega]
    rw[a1]at aC hlen
    simp only[List.length_cons]at hlen
    refine⟨by omega,by simp only[List.length_append,List.length_cons,List.length_nil,b4];omega,by omega,by rw[km];simp only[aO]at*;omega,
     ⟨out++[n.tmod 16777216],n.tdiv 16777216,rfl,rfl,rfl,by rw[km];omega,by rw[km];simp only[aO]at*;omega,by simp only[List.length_append,List.length_cons,List.length_nil];omega,by rw[←aC];simp⟩,by rw[km];omega⟩
   ·simp (maxSteps:=2000000) only[↓al,ak,↓reduceIte,reduceCtorEq,Nat.reduceEqDiff,Nat.reduceLeDiff,Nat.reduceSub,Nat.reduceAdd,Int.reduceToNat,Nat.reducePow,Int.reducePow,Int.reduceLE,Int.reduceLT,IntKind.bits,aq,aW,h0,au]
    refine⟨out,rfl,rfl,?_⟩
    rw[show n.toNat=0 by omega,hk,List.append_nil]at aC
    exact aC
 ·rintro s ⟨out,aq,aW,aC⟩
  simp (maxSteps:=2000000) only[↓al,ak,↓reduceIte,reduceCtorEq,Nat.reduceEqDiff,Nat.reduceLeDiff,Nat.reduceSub,Nat.reduceAdd,Int.reduceToNat,Nat.reducePow,Int.reducePow,Int.reduceLE,Int.reduceLT,IntKind.bits,aq,aW]
  rw[List.take_length,aC]
def lx:bC where
 pre:=fJ.pre
 res:=fun ds=>match ds with
  |[.ints _ xs,.ints _ aB]=>if val xs<val aB then .fh [.ints .i64 [],.bool false]else .fh [aZ (val xs - val aB),.bool true]
  |_=> .nilp
theorem I0 (Γ:Env) (f92:Γ.fn 92=some fJ) (I1:Γ.mt 92=none) (f124:Γ.fn 124=some iv) (q0:Γ.mt 124=none) (f125:Γ.fn 125=some px) (DQ:Γ.mt 125=none) (ds:List D) (h:lx.pre ds):bT Γ EZ Nu ds fun d=>d=lx.res ds:=by
 obtain⟨xs,aB,rfl,⟨a,a9⟩,⟨b,aw⟩,da,hK⟩:=h
 have aj:ca xs:=a9▸c5 a
 have hy:ca aB:=aw▸c5 b
 have ac3:fJ.own=false:=rfl
 have ac4:fJ.pre [.ints .i64 xs,.ints .i64 aB]:=⟨xs,aB,rfl,⟨a,a9⟩,⟨b,aw⟩,da,hK⟩
 by_cases bw:val xs<val aB
 ·have vI:fJ.res [.ints .i64 xs,.ints .i64 aB]= .int .i64 (-1):=by simp only[fJ];rw[if_pos bw]
  simp (maxSteps:=2000000) only[↓al,ak,↓reduceIte,reduceCtorEq,Nat.reduceEqDiff,Nat.reduceLeDiff,Nat.reduceSub,Nat.reduceAdd,Int.reduceToNat,Nat.reducePow,Int.reducePow,Int.reduceLE,Int.reduceLT,IntKind.bits,EZ,Nu,lx,f92,I1,ac4,ac3,vI,bw]
 ·have vI:∃n:Int,fJ.res [.ints .i64 xs,.ints .i64 aB]= .int .i64 n∧¬n<0:=by simp only[fJ];rw[if_neg bw];split<;>exact⟨_,rfl,by decide⟩
  obtain⟨asp,vI,zZ⟩:=vI
  simp (maxSteps:=2000000) only[↓al,ak,↓reduceIte,reduceCtorEq,Nat.reduceEqDiff,Nat.reduceLeDiff,Nat.reduceSub,Nat.reduceAdd,Int.reduceToNat,Nat.reducePow,Int.reducePow,Int.reduceLE,Int.reduceLT,IntKind.bits,EZ,Nu,lx,f92,I1,ac4,ac3,vI,zZ,bw]
  refine bZ (fun s=>∃out:List Int,s.ag 6= .own 6 0 out.length∧s.az 6=some ⟨false,false,.ints .i64 out⟩∧ca out∧out.length≤100000∧val out=val xs - val aB) ?_ ?_
  ·simp (maxSteps:=2000000) only[↓al,ak,↓reduceIte,reduceCtorEq,Nat.reduceEqDiff,Nat.reduceLeDiff,Nat.reduceSub,Nat.reduceAdd,Int.reduceToNat,Nat.reducePow,Int.reducePow,Int.reduceLE,Int.reduceLT,IntKind.bits,EZ]
   refine fp (fun s=>∃(out:List Int) (c:Nat),s.ag 0= .d (.ints .i64 xs)∧s.ag 1= .d (.ints .i64 aB)∧s.ag 6= .own 6 0 out.length∧s.az 6=some ⟨false,false,.ints .i64 out⟩∧s.ag 7= .d (.int .i64 c)∧s.ag 8= .d (.int .i64 out.length)∧
    ca out∧out.length≤xs.length∧c≤1∧val out+16777216^out.length*val (xs.drop out.length)=(val xs - val aB)+16777216^out.length*(c+val (aB.drop out.length)))
    (fun s=>match s.ag 8 with| .d (.int _ n)=>xs.length - n.toNat|_=>0) ?_ ?_
   ·refine⟨[],0,?_⟩
    simp (maxSteps:=2000000) only[↓al,ak,↓reduceIte,reduceCtorEq,Nat.reduceEqDiff,Nat.reduceLeDiff,Nat.reduceSub,Nat.reduceAdd,Int.reduceToNat,Nat.reducePow,Int.reducePow,Int.reduceLE,Int.reduceLT,IntKind.bits,EZ]
    exact⟨rfl,rfl,(fun x aj=>by cases aj),Nat.zero_le _,by simp only[val,Nat.one_mul];omega⟩
   ·rintro s ⟨out,c,h0,h1,aN,a8,aM,aY,aJ,bu,au,aC⟩
    by_cases iU:(out.length:Int)<xs.length
    ·by_cases kW:xs.getD out.length 0 - aB.getD out.length 0 - (c:Int)<0<;>
      simp (maxSteps:=2000000) only[↓al,ak,↓reduceIte,reduceCtorEq,Nat.reduceEqDiff,Nat.reduceLeDiff,Nat.reduceSub,Nat.reduceAdd,Int.reduceToNat,Nat.reducePow,Int.reducePow,Int.reduceLE,Int.reduceLT,IntKind.bits,h0,h1,aN,a8,aM,aY,f125,DQ,px,iU,kW]
     all_goals
      have eu:=aj.getD out.length
      have g0:=hy.getD out.length
     ·refine⟨by omega,⟨aB,out.length,rfl⟩,by simp only[aO];omega,by simp only[aO];omega,by simp only[aO];omega,by simp only[List.length_append,List.length_cons,List.length_nil,b4];omega,by simp only[aO];omega,
       ⟨out++[xs.getD out.length 0 - aB.getD out.length 0 - (c:Int)+16777216],1,rfl,rfl,rfl,by simp,aJ.snoc (by omega) (by omega),by simp only[List.length_append,List.length_cons,List.length_nil];omega,by omega,?_⟩,by omega⟩
      have:=Xw (c':=1) (d:=xs.getD out.length 0 - aB.getD out.length 0 - (c:Int)+16777216) aj hy (by omega) (by omega) aC
      simpa only[List.length_append,List.length_cons,List.length_nil,Nat.zero_add]using this
     ·refine⟨by omega,⟨aB,out.length,rfl⟩,by simp only[aO];omega,by simp only[aO];omega,by simp only[List.length_append,List.length_cons,List.length_nil,b4];omega,by simp only[aO];omega,
       ⟨out++[xs.getD out.length 0 - aB.getD out.length 0 - (c:Int)],0,rfl,rfl,rfl,by simp,aJ.snoc (by omega) (by omega),by simp only[List.length_append,List.length_cons,List.length_nil];omega,by omega,?_⟩,by omega⟩
      have:=Xw (c':=0) (d:=xs.getD out.length 0 - aB.getD out.length 0 - (c:Int)) aj hy (by omega) (by omega) aC
      simpa only[List.length_append,List.length_cons,List.length_nil,Nat.zero_add]using this
    ·simp (maxSteps:=2000000) only[↓al,ak,↓reduceIte,reduceCtorEq,Nat.reduceEqDiff,Nat.reduceLeDiff,Nat.reduceSub,Nat.reduceAdd,Int.reduceToNat,Nat.reducePow,Int.reducePow,Int.reduceLE,Int.reduceLT,IntKind.bits,h0,h1,aN,a8,aM,aY,f125,DQ,px,iU]
     have af:out.length=xs.length:=by omega
     refine⟨out,rfl,rfl,aJ,by omega,?_⟩
     rw[List.drop_of_length_le (l:=xs) (by omega)]at aC
     simp only[val,Nat.mul_zero,Nat.add_zero]at aC
     have ar9:=kb aJ
     have br:c+val (aB.drop out.length)=0:=by
      rcases Nat.eq_zero_or_pos (c+val (aB.drop out.length))with h|h
      ·exact h
      ·exfalso
       have:=Nat.mul_le_mul_left (16777216^out.length) h
       omega
     rw[br]at aC
     simpa using aC
  ·rintro s ⟨out,aN,a8,aJ,bu,aC⟩
   simp (maxSteps:=2000000) only[↓al,ak,↓reduceIte,reduceCtorEq,Nat.reduceEqDiff,Nat.reduceLeDiff,Nat.reduceSub,Nat.reduceAdd,Int.reduceToNat,Nat.reducePow,Int.reducePow,Int.reduceLE,Int.reduceLT,IntKind.bits,aN,a8,f124,q0,iv]
   rw[List.take_length,aC]
   exact⟨⟨out,rfl,aJ,bu⟩,rfl⟩
def ly:bC where
 pre:=fun ds=>∃xs aB:List Int,ds=[.ints .i64 xs,.ints .i64 aB]∧ca xs∧ca aB∧xs.length≤10000∧aB.length≤10000
 res:=fun ds=>match ds with
  |[.ints _ xs,.ints _ aB]=>aZ (val xs*val aB)
  |_=> .nilp
theorem Nx (Γ:Env) (f124:Γ.fn 124=some iv) (q0:Γ.mt 124=none) (ds:List D) (h:ly.pre ds):bT Γ IW U9 ds fun d=>d=ly.res ds:=by
 obtain⟨xs,aB,rfl,aj,hy,da,hK⟩:=h
 simp (maxSteps:=2000000) only[↓al,ak,↓reduceIte,reduceCtorEq,Nat.reduceEqDiff,Nat.reduceLeDiff,Nat.reduceSub,Nat.reduceAdd,Int.reduceToNat,Nat.reducePow,Int.reducePow,Int.reduceLE,Int.reduceLT,IntKind.bits,IW,U9,ly]
 refine⟨by simp only[aO];omega,by omega,by simp only[b4];omega,?_⟩
 refine bZ (fun s=>∃out:List Int,s.ag 5= .own 15 0 out.length∧s.az 15=some ⟨false,false,.ints .i64 out⟩∧ca out∧out.length≤20000∧val out=val xs*val aB) ?_ ?_
 ·simp (maxSteps:=2000000) only[↓al,ak,↓reduceIte,reduceCtorEq,Nat.reduceEqDiff,Nat.reduceLeDiff,Nat.reduceSub,Nat.reduceAdd,Int.reduceToNat,Nat.reducePow,Int.reducePow,Int.reduceLE,Int.reduceLT,IntKind.bits,IW]
  refine fp (fun s=>∃(out:List Int) (i:Nat),s.ag 0= .d (.ints .i64 xs)∧s.ag 1= .d (.ints .i64 aB)∧s.ag 5= .own 15 0 out.length∧s.az 15=some ⟨false,false,.ints .i64 out⟩∧s.ag 6= .d (.int .i64 i)∧
   ca out∧out.length=xs.length+aB.length∧i≤xs.length∧val out=val (xs.take i)*val aB∧∀j,i+aB.length≤j→out.getD j 0=0)
   (fun s=>match s.ag 6 with| .d (.int _ n)=>xs.length - n.toNat|_=>0) ?_ ?_
  ·refine⟨List.replicate (xs.length+aB.length) 0,0,?_⟩
   simp (maxSteps:=2000000) only[↓al,ak,↓reduceIte,reduceCtorEq,Nat.reduceEqDiff,Nat.reduceLeDiff,Nat.reduceSub,Nat.reduceAdd,Int.reduceToNat,Nat.reducePow,Int.reducePow,Int.reduceLE,Int.reduceLT,IntKind.bits,IW]
   rw[show ((xs.length:Int)+aB.length).toNat=xs.length+aB.length by omega]
   refine⟨rfl,rfl,rfl,fun x aj=> ?_,Nat.zero_le _,by rw[CO];simp[val],fun j _=> ?_⟩
   ·rw[List.eq_of_mem_replicate aj];decide
   ·rw[List.getD_eq_getElem?_getD,List.getElem?_replicate];split<;>rfl
  ·rintro s ⟨out,i,h0,h1,aF,iA,aN,aJ,hlen,hi,aC,br⟩
   by_cases iU:(i:Int)<xs.length
   ·simp (maxSteps:=2000000) only[↓al,ak,↓reduceIte,reduceCtorEq,Nat.reduceEqDiff,Nat.reduceLeDiff,Nat.reduceSub,Nat.reduceAdd,Int.reduceToNat,Nat.reducePow,Int.reducePow,Int.reduceLE,Int.reduceLT,IntKind.bits,h0,h1,aF,iA,aN,iU]
    refine bZ (fun s=>∃out:List Int,s.ag 0= .d (.ints .i64 xs)∧s.ag 1= .d (.ints .i64 aB)∧s.ag 5= .own 15 0 out.length∧s.az 15=some ⟨false,false,.ints .i64 out⟩∧s.ag 6= .d (.int .i64 i)∧
     ca out∧out.length=xs.length+aB.length∧val out=val (xs.take (i+1))*val aB∧∀j,i+1+aB.length≤j→out.getD j 0=0) ?_ ?_
    ·simp (maxSteps:=2000000) only[↓al,ak,↓reduceIte,reduceCtorEq,Nat.reduceEqDiff,Nat.reduceLeDiff,Nat.reduceSub,Nat.reduceAdd,Int.reduceToNat,Nat.reducePow,Int.reducePow,Int.reduceLE,Int.reduceLT,IntKind.bits,h0,h1,aF,iA,aN,iU]
     refine bZ (fun s=>∃(df:List Int) (c:Nat),s.ag 0= .d (.ints .i64 xs)∧s.ag 1= .d (.ints .i64 aB)∧s.ag 5= .own 15 0 df.length∧s.az 15=some ⟨false,false,.ints .i64 df⟩∧s.ag 6= .d (.int .i64 i)∧s.ag 7= .d (.int .i64 c)∧
      ca df∧df.length=xs.length+aB.length∧c<16777216∧val df+16777216^(i+aB.length)*c=val out+16777216^i*((xs.getD i 0).toNat*val aB)∧∀j,i+aB.length≤j→df.getD j 0=0) ?_ ?_
     ·simp (maxSteps:=2000000) only[↓al,ak,↓reduceIte,reduceCtorEq,Nat.reduceEqDiff,Nat.reduceLeDiff,Nat.reduceSub,Nat.reduceAdd,Int.reduceToNat,Nat.reducePow,Int.reducePow,Int.reduceLE,Int.reduceLT,IntKind.bits,h0,h1,aF,iA,aN,iU]
      refine fp (fun s=>∃(df:List Int) (c k:Nat),s.ag 0= .d (.ints .i64 xs)∧s.ag 1= .d (.ints .i64 aB)∧s.ag 5= .own 15 0 df.length∧s.az 15=some ⟨false,false,.ints .i64 df⟩∧s.ag 6= .d (.int .i64 i)∧s.ag 7= .d (.int .i64 c)∧s.ag 8= .d (.int .i64 k)∧
       ca df∧df.length=xs.length+aB.length∧c<16777216∧k≤aB.length∧val df+16777216^(i+k)*c=val out+16777216^i*((xs.getD i 0).toNat*val (aB.take k))∧∀j,i+aB.length≤j→df.getD j 0=0)
       (fun s=>match s.ag 8 with| .d (.int _ n)=>aB.length - n.toNat|_=>0) ?_ ?_
      ·refine⟨out,0,0,?_⟩
       simp (maxSteps:=2000000) only[↓al,ak,↓reduceIte,reduceCtorEq,Nat.reduceEqDiff,Nat.reduceLeDiff,Nat.reduceSub,Nat.reduceAdd,Int.reduceToNat,Nat.reducePow,Int.reducePow,Int.reduceLE,Int.reduceLT,IntKind.bits,h0,h1,aF,iA,aN,iU]
       refine⟨rfl,rfl,aJ,hlen,by omega,Nat.zero_le _,by simp[val],br⟩
      ·rintro s ⟨df,c,k,h0,h1,aF,iA,aN,aM,aY,fi,iq,au,af,qq,qs⟩
       by_cases kW:(k:Int)<aB.length
       ·have a4:((i:Int)+k).toNat=i+k:=by omega
        have bc:i+k<df.length:=by omega
        have rz:=aj.getD i
        have Vg:=hy.getD k
        have bu:=fi.getD (i+k)
        have x0:xs.getD i 0*aB.getD k 0=(((xs.getD i 0).toNat*(aB.getD k 0).toNat:Nat):Int):=by
         rw[Int.natCast_mul,Int.toNat_of_nonneg rz.1,Int.toNat_of_nonneg Vg.1]
        have ye:=Yq (x:=(xs.getD i 0).toNat) (y:=(aB.getD k 0).toNat) (c:=c) (o:=(df.getD (i+k) 0).toNat) (by omega) (by omega) au (by omega)
        simp (maxSteps:=2000000) only[↓al,ak,↓reduceIte,reduceCtorEq,Nat.reduceEqDiff,Nat.reduceLeDiff,Nat.reduceSub,Nat.reduceAdd,Int.reduceToNat,Nat.reducePow,Int.reducePow,Int.reduceLE,Int.reduceLT,IntKind.bits,h0,h1,aF,iA,aN,aM,aY,kW,a4,bc,x0]
        generalize oL:df.getD (i+k) 0+(((xs.getD i 0).toNat*(aB.getD k 0).toNat:Nat):Int)+(c:Int)=S
        have fj:=Zx (out:=df) (j:=i+k) (c:=c) (x:=(xs.getD i 0).toNat) (y:=(aB.getD k 0).toNat) fi bc oL.symm
        have E2:0≤S:=by omega
        have aoM:S<16777216*16777216:=by omega
        have km:S.tdiv 16777216=S / 16777216:=Int.tdiv_eq_ediv_of_nonneg E2
        have jh:S.tmod 16777216=S % 16777216:=Int.tmod_eq_emod_of_nonneg E2
        refine⟨by simp only[aO];omega,by omega,by omega,by omega,by omega,by omega,by simp only[aO];omega,by simp only[aO];omega,by simp only[aO];omega,by simp only[aO];omega,by omega,by omega,by omega,by omega,
         by rw[km];simp only[aO];omega,by simp only[aO];omega,⟨df.set (i+k) (S.tmod 16777216),(S.tdiv 16777216).toNat,k+1,by rw[List.length_set],rfl,by rw[km];omega,by omega,fi.set _ (by rw[jh];omega) (by rw[jh];omega),by rw[List.length_set];exact iq,by rw[km];omega,by omega,?_,fun j aH=> ?_⟩,by omega⟩
        ·rw[show i+(k+1)=i+k+1 by omega,fj,Nat.mul_add,←Nat.add_assoc,qq,CC (by omega),Nat.mul_add,Nat.mul_add,Nat.add_assoc]
         congr 2
         rw[Nat.pow_add,Nat.mul_assoc]
         congr 1
         rw[Nat.mul_left_comm]
        ·rw[wu (by omega)];exact qs j aH
       ·simp (maxSteps:=2000000) only[↓al,ak,↓reduceIte,reduceCtorEq,Nat.reduceEqDiff,Nat.reduceLeDiff,Nat.reduceSub,Nat.reduceAdd,Int.reduceToNat,Nat.reducePow,Int.reducePow,Int.reduceLE,Int.reduceLT,IntKind.bits,h0,h1,aF,iA,aN,aM,aY,kW]
        rw[List.take_of_length_le (by omega),show k=aB.length by omega]at qq
        exact⟨df,c,rfl,rfl,rfl,fi,iq,au,qq,qs⟩
     ·rintro s ⟨df,c,h0,h1,aF,iA,aN,aM,fi,iq,au,qq,qs⟩
      have a4:((i:Int)+aB.length).toNat=i+aB.length:=by omega
      have bc:i+aB.length<df.length:=by omega
      simp (maxSteps:=2000000) only[↓al,ak,↓reduceIte,reduceCtorEq,Nat.reduceEqDiff,Nat.reduceLeDiff,Nat.reduceSub,Nat.reduceAdd,Int.reduceToNat,Nat.reducePow,Int.reducePow,Int.reduceLE,Int.reduceLT,IntKind.bits,h0,h1,aF,iA,aN,aM,a4,bc]
      refine⟨by simp only[aO];omega,by omega,by omega,⟨df.set (i+aB.length) c,by rw[List.length_set],rfl,fi.set _ (by omega) (by omega),by rw[List.length_set];exact iq,?_,fun j aH=> ?_⟩⟩
      ·have aG:=K5 bc (c:Int)
       rw[qs _ (Nat.le_refl _)]at aG
       simp only[Int.toNat_zero,Nat.mul_zero,Nat.add_zero,Int.toNat_natCast]at aG
       rw[aG,qq,aC,CC (by omega),Nat.add_mul,Nat.mul_assoc]
      ·rw[wu (by omega)];exact qs j (by omega)
    ·rintro s ⟨df,h0,h1,aF,iA,aN,fi,iq,qq,qs⟩
     simp (maxSteps:=2000000) only[↓al,ak,↓reduceIte,reduceCtorEq,Nat.reduceEqDiff,Nat.reduceLeDiff,Nat.reduceSub,Nat.reduceAdd,Int.reduceToNat,Nat.reducePow,Int.reducePow,Int.reduceLE,Int.reduceLT,IntKind.bits,h0,h1,aF,iA,aN]
     exact⟨by simp only[aO];omega,⟨df,i+1,rfl,rfl,by omega,fi,iq,by omega,qq,qs⟩,by omega⟩
   ·simp (maxSteps:=2000000) only[↓al,ak,↓reduceIte,reduceCtorEq,Nat.reduceEqDiff,Nat.reduceLeDiff,Nat.reduceSub,Nat.reduceAdd,Int.reduceToNat,Nat.reducePow,Int.reducePow,Int.reduceLE,Int.reduceLT,IntKind.bits,h0,h1,aF,iA,aN,iU]
    rw[List.take_of_length_le (by omega)]at aC
    exact⟨out,rfl,rfl,aJ,by omega,aC⟩
 ·rintro s ⟨out,aF,iA,aJ,bu,aC⟩
  simp (maxSteps:=2000000) only[↓al,ak,↓reduceIte,reduceCtorEq,Nat.reduceEqDiff,Nat.reduceLeDiff,Nat.reduceSub,Nat.reduceAdd,Int.reduceToNat,Nat.reducePow,Int.reducePow,Int.reduceLE,Int.reduceLT,IntKind.bits,aF,iA,f124,q0,iv]
  rw[List.take_length,aC]
  exact⟨⟨out,rfl,aJ,by omega⟩,rfl⟩
end RV.Dr
namespace RV
def bp (n:Nat):Nat:=if n=0 then 0 else n.log2+1
theorem jP {n k:Nat} :bp n≤k↔n<2^k:=by
 unfold bp
 by_cases h:n=0
 ·subst h;simp[Nat.two_pow_pos]
 ·rw[if_neg h,←Nat.log2_lt h];omega
theorem k4 (n:Nat):n<2^bp n:=jP.1 (Nat.le_refl _)
theorem eE:bp 0=0:=rfl
theorem xM {n:Nat} (h:n≠0):0<bp n:=by unfold bp;rw[if_neg h];omega
theorem CG {n:Nat} (h:n≠0):2^(bp n - 1)≤n:=by
 rcases Nat.lt_or_ge n (2^(bp n - 1))with h2|h2
 ·have:=jP.2 h2
  have:=xM h
  omega
 ·exact h2
theorem Kg {n k:Nat} (h0:0<k) (h1:2^(k - 1)≤n) (h2:n<2^k):bp n=k:=by
 have a:=jP.2 h2
 rcases Nat.lt_or_ge (bp n) k with h|h
 ·have:=jP.1 (show bp n≤k - 1 by omega)
  omega
 ·omega
theorem yU {a b:Nat} (h:a≤b):bp a≤bp b:=jP.2 (Nat.lt_of_le_of_lt h (k4 b))
theorem Yw {n:Nat} (h:n≠0):bp n=bp (n / 2)+1:=by
 refine Kg (by omega) ?_ ?_
 ·rw[Nat.add_sub_cancel]
  by_cases h2:n / 2=0
  ·rw[h2,eE];simp;omega
  ·have:=CG h2
   have a1:=xM h2
   rw[show bp (n / 2)=bp (n / 2) - 1+1 by omega,Nat.pow_succ]
   omega
 ·have:=k4 (n / 2)
  rw[Nat.pow_succ];omega
theorem p2 {n:Nat} (h:n≠0) (k:Nat):bp (n*2^k)=bp n+k:=by
 have a1:=xM h
 refine Kg (by omega) ?_ ?_
 ·rw[show bp n+k - 1=bp n - 1+k by omega,Nat.pow_add]
  exact Nat.mul_le_mul_right _ (CG h)
 ·rw[Nat.pow_add]
  exact Nat.mul_lt_mul_of_pos_right (k4 n) (Nat.two_pow_pos k)
theorem KX (n k:Nat):bp (n / 2^k)=bp n - k:=by
 rcases Nat.lt_or_ge k (bp n)with h|h
 ·have h0:n≠0:=fun e=>by subst e;simp[eE]at h
  refine Kg (by omega) ?_ ?_
  ·rw[Nat.le_div_iff_mul_le (Nat.two_pow_pos k),←Nat.pow_add,show bp n - k - 1+k=bp n - 1 by omega]
   exact CG h0
  ·rw[Nat.div_lt_iff_lt_mul (Nat.two_pow_pos k),←Nat.pow_add,show bp n - k+k=bp n by omega]
   exact k4 n
 ·rw[Nat.div_eq_of_lt (jP.1 h),eE];omega
theorem zb (k:Nat):(16777216:Nat)^k=2^(24*k):=by rw[Nat.pow_mul]
theorem ZC {xs:List Int} (h:ca xs) (h0:xs≠[]) (aJ:xs.getD (xs.length - 1) 0≠0):bp (val xs)=24*(xs.length - 1)+bp (xs.getD (xs.length - 1) 0).toNat:=by
 have hlen:0<xs.length:=List.length_pos_iff.2 h0
 have aL:=h.getD (xs.length - 1)
 have aC:=GF xs (xs.length - 1) (by omega)
 rw[r5,List.drop_of_length_le (by omega)]at aC
 have ah:=kb (h.take (xs.length - 1))
 rw[List.length_take,Nat.min_eq_left (by omega)]at ah
 simp only[val,Nat.mul_zero,Nat.add_zero]at aC
 have eZ:(xs.getD (xs.length - 1) 0).toNat≠0:=by omega
 have aw:=xM eZ
 have h1:=CG eZ
 have h2:=k4 (xs.getD (xs.length - 1) 0).toNat
 generalize (xs.getD (xs.length - 1) 0).toNat=t at*
 rw[zb]at*
 refine Kg (by omega) ?_ ?_
 ·rw[show 24*(xs.length - 1)+bp t - 1=24*(xs.length - 1)+(bp t - 1)by omega,Nat.pow_add,aC]
  exact Nat.le_trans (Nat.mul_le_mul_left _ h1) (Nat.le_add_left _ _)
 ·rw[Nat.pow_add,aC]
  have:2^(24*(xs.length - 1))*(t+1)≤2^(24*(xs.length - 1))*2^bp t:=Nat.mul_le_mul_left _ h2
  rw[Nat.mul_add]at this
  omega
theorem J2 {n:Nat} (h:n≠0):(ao n).getD ((ao n).length - 1) 0≠0:=by
 have a1:=xG h
 rw[List.getD_eq_getElem?_getD,List.getElem?_eq_getElem (by omega)]
 refine ai1 (n:=n) _ ?_
 rw[List.getLast?_eq_getElem?,List.getElem?_eq_getElem (by omega)]
 rfl
theorem ZD {n:Nat} (h:n≠0):ao n≠[]:=fun e=>h (Yp e)
theorem Pb {a b:Nat} (h:ao a=ao b):a=b:=by rw[←b5 a,h,b5]
theorem Ay (n:Nat):bp n≤24*(ao n).length:=by
 rw[jP,←zb];exact Pw n
theorem AE (a b:Nat):bp (a+b)≤max (bp a) (bp b)+1:=by
 rw[jP,Nat.pow_succ]
 have h1:=k4 a
 have h2:=k4 b
 have aq:2^bp a≤2^max (bp a) (bp b):=Nat.pow_le_pow_right (by decide) (Nat.le_max_left _ _)
 have aE:2^bp b≤2^max (bp a) (bp b):=Nat.pow_le_pow_right (by decide) (Nat.le_max_right _ _)
 omega
theorem CH (a b:Nat):bp (a*b)≤bp a+bp b:=by
 rw[jP,Nat.pow_add]
 have h1:=k4 a
 have h2:=k4 b
 exact Nat.mul_lt_mul_of_lt_of_lt h1 h2
theorem air {a b:Nat} (a9:a≠0) (aw:b≠0):bp a+bp b≤bp (a*b)+1:=by
 have h1:=CG a9
 have h2:=CG aw
 have hm:=Nat.mul_le_mul h1 h2
 rw[←Nat.pow_add]at hm
 have pa:=xM a9
 have tc:=xM aw
 rcases Nat.lt_or_ge (bp (a*b)) (bp a+bp b - 1)with h|h
 ·have:=jP.1 (Nat.le_of_lt_succ (show bp (a*b)<(bp a - 1+(bp b - 1))+1 by omega))
  omega
 ·omega
end RV
namespace RV
theorem ZE {p q:Nat} (a1:0<p) (sS:p*q=16777216) (x v:Nat):(x+16777216*v) / p=x / p+v % p*q+16777216*(v / p):=by
 rw[←sS,Nat.mul_assoc,Nat.add_mul_div_left _ _ a1,Nat.add_assoc]
 congr 1
 conv=>lhs;rw[←Nat.mod_add_div v p]
 rw[Nat.mul_add,Nat.mul_comm q (v % p),Nat.mul_assoc,←Nat.mul_assoc q p,Nat.mul_comm q p,Nat.mul_assoc]
theorem ZF {p q:Nat} (a1:0<p) (sS:p*q=16777216) {x:Nat} (aj:x<16777216) (y:Nat):x / p+y % p*q<16777216:=by
 have h1:x / p<q:=by rw[Nat.div_lt_iff_lt_mul a1,Nat.mul_comm,sS];exact aj
 have h2:y % p<p:=Nat.mod_lt _ a1
 have aq:(y % p+1)*q≤p*q:=Nat.mul_le_mul_right _ h2
 rw[Nat.add_mul]at aq
 omega
theorem J9 {xs:List Int} (h:ca xs) (k:Nat):val (xs.drop k)=val xs / 16777216^k:=by
 rcases Nat.lt_or_ge k xs.length with af|af
 ·have h1:=GF xs k (by omega)
  have h2:=kb (h.take k)
  rw[List.length_take,Nat.min_eq_left (by omega)]at h2
  rw[h1,Nat.add_mul_div_left _ _ (Nat.pow_pos (by decide)),Nat.div_eq_of_lt h2,Nat.zero_add]
 ·rw[List.drop_of_length_le af,Nat.div_eq_of_lt (Nat.lt_of_lt_of_le (kb h) (Nat.pow_le_pow_right (by decide) af))]
  rfl
theorem Xz {xs:List Int} {p q:Nat} (sS:p*q=16777216):∀(i:Nat),val (xs.drop i) % p=(xs.getD i 0).toNat % p:=fun i=>by
 rw[r5,←sS,Nat.mul_assoc,Nat.add_mul_mod_self_left]
theorem XA {k:Int} (af:0≤k):(16777216:Nat)^(k / 24).toNat*2^(k % 24).toNat=2^k.toNat:=by
 rw[zb,←Nat.pow_add];congr 1;omega
theorem Yx {k:Int} (af:0≤k):∃q:Nat,2^(k % 24).toNat*q=16777216∧2≤q:=⟨2^(24 - (k % 24).toNat),by rw[←Nat.pow_add,show (k % 24).toNat+(24 - (k % 24).toNat)=24 by omega],by
 have:2^1≤2^(24 - (k % 24).toNat):=Nat.pow_le_pow_right (by decide) (by omega)
 simpa using this⟩
theorem ZG {out:List Int} {c p q x v i:Nat} {s:Int} (aG:s=((x*p+c:Nat):Int)) (hlen:out.length=q+i) (aC:val out+16777216^(q+i)*c=16777216^q*(p*v)):
 val (out++[s.tmod 16777216])+16777216^(q+i+1)*(s.tdiv 16777216).toNat=16777216^q*(p*(v+16777216^i*x)):=by
 have h0:0≤s:=by omega
 have:=XU (out:=out) (T:=val out+16777216^out.length*s.toNat) (r:=s.toNat) (r':=0) h0 rfl (by omega)
 simp only[hlen,Nat.add_zero]at this
 rw[this,show s.toNat=x*p+c by omega,Nat.mul_add,Nat.add_left_comm,←Nat.add_assoc,Nat.add_assoc,aC]
 rw[Nat.mul_add,Nat.mul_add,Nat.pow_add]
 have:16777216^q*16777216^i*(x*p)=16777216^q*(p*(16777216^i*x)):=by
  simp only[Nat.mul_assoc,Nat.mul_comm,Nat.mul_left_comm]
 rw[this,Nat.add_comm]
end RV
namespace RV
theorem Gm (xs:List Int) (i:Nat):val (xs.take (i+1))=val (xs.take i)+16777216^i*(xs.getD i 0).toNat:=by
 rcases Nat.lt_or_ge i xs.length with h|h
 ·exact CC h
 ·rw[List.take_of_length_le (by omega),List.take_of_length_le h,List.getD_eq_getElem?_getD,List.getElem?_eq_none h];simp
theorem Ka {out:List Int} {i:Nat} (hi:i<out.length) (v:Int):val ((out.set i v).take (i+1))=val (out.take i)+16777216^i*v.toNat:=by
 rw[Gm,List.take_set_of_le (Nat.le_refl i),List.getD_eq_getElem?_getD,List.getElem?_set_self hi]
 rfl
theorem OU {out xs aB:List Int} {i:Nat} {c t s:Int} (hi:i<out.length) (aj:ca xs) (hy:ca aB) (aG:s=xs.getD i 0+t*aB.getD i 0+c)
 (aC:(val (out.take i):Int)+16777216^i*c=val (xs.take i)+t*val (aB.take i)):
 (val ((out.set i (s % 16777216)).take (i+1)):Int)+16777216^(i+1)*(s / 16777216)=val (xs.take (i+1))+t*val (aB.take (i+1)):=by
 rw[Ka hi,Gm,Gm]
 have h1:=aj.getD i
 have h2:=hy.getD i
 simp only[Int.natCast_add,Int.natCast_mul,Int.natCast_pow,Int.toNat_of_nonneg h1.1,Int.toNat_of_nonneg h2.1,Int.toNat_of_nonneg (show 0≤s % 16777216 by omega)]
 have e:(s % 16777216)+16777216*(s / 16777216)=s:=by omega
 show (val (out.take i):Int)+16777216^i*(s % 16777216)+16777216^(i+1)*(s / 16777216)=(val (xs.take i):Int)+16777216^i*xs.getD i 0+t*((val (aB.take i):Int)+16777216^i*aB.getD i 0)
 rw[Int.pow_succ,Int.mul_assoc,Int.add_assoc,←Int.mul_add,e,aG,Int.mul_add,Int.mul_add,Int.mul_add]
 have bc:t*((16777216:Int)^i*aB.getD i 0)=16777216^i*(t*aB.getD i 0):=Int.mul_left_comm ..
 rw[bc]
 generalize (16777216:Int)^i*(t*aB.getD i 0)=A at*
 generalize (16777216:Int)^i*xs.getD i 0=B at*
 omega
theorem Pc {n:Nat} {v T:Nat} {c:Int} (aC:(v:Int)+16777216^n*c=T) (h1:v<16777216^n) (h2:T<16777216^n) (au:c=0∨c=1∨c= -1):c=0∧v=T:=by
 have e:((16777216^n:Nat):Int)=16777216^n:=by rw[Int.natCast_pow];rfl
 rcases au with rfl|rfl|rfl
 ·exact⟨rfl,by omega⟩
 ·exfalso;rw[←e]at aC;omega
 ·exfalso;rw[←e]at aC;omega
end RV
namespace RV
theorem ajC {out:List Int} {j c x y:Nat} {s:Int} (aJ:ca out) (aH:j<out.length) (aG:s=out.getD j 0+(x*y:Nat)+c):
 val (out.set j (s % 16777216))+16777216^(j+1)*(s / 16777216).toNat=val out+16777216^j*(c+x*y):=by
 have bu:=aJ.getD j
 have h:=Zx aJ aH aG
 rwa [Int.tmod_eq_emod_of_nonneg (by omega),Int.tdiv_eq_ediv_of_nonneg (by omega)]at h
end RV
namespace RV
theorem ajD {out:List Int} {c p x Q j v:Nat} (hi:Q+j<out.length) (aC:val (out.take (Q+j))+16777216^(Q+j)*c=16777216^Q*(p*v)):
 val ((out.set (Q+j) ((((x*p:Nat):Int)+c) % 16777216)).take (Q+j+1))+16777216^(Q+j+1)*((((x*p:Nat):Int)+c) / 16777216).toNat=16777216^Q*(p*(v+16777216^j*x)):=by
 have aJ:(out.take (Q+j)).length=Q+j:=by rw[List.length_take];omega
 have h:=ZG (out:=out.take (Q+j)) (x:=x) (s:=((x*p:Nat):Int)+c) (by omega) aJ aC
 rw[Ka hi]
 rw[yW,aJ,Int.tmod_eq_emod_of_nonneg (by omega),Int.tdiv_eq_ediv_of_nonneg (by omega)]at h
 exact h
theorem carry_zero {v P c T:Nat} (h:v+P*c=T) (cf:T<P):c=0∧v=T:=by
 rcases Nat.eq_zero_or_pos c with h0|h0
 ·subst h0;exact⟨rfl,by simpa using h⟩
 ·exfalso
  have:P*1≤P*c:=Nat.mul_le_mul_left _ h0
  omega
theorem akg {xs:List Int} (h:ca xs) {p Q:Nat} (a1:p<16777216):16777216^Q*p*val xs<16777216^(Q+xs.length+1):=by
 have h1:=kb h
 rw[Nat.pow_succ,Nat.pow_add,Nat.mul_assoc,Nat.mul_assoc]
 refine Nat.mul_lt_mul_of_pos_left ?_ (Nat.pow_pos (by decide))
 rw[Nat.mul_comm p]
 exact Nat.mul_lt_mul_of_lt_of_lt h1 a1
def fx:Nat→Nat→List Int
 |0,_=>[]
 |n+1,v=>((v % 16777216:Nat):Int)::fx n (v / 16777216)
theorem fu:∀(n v:Nat),(fx n v).length=n
 |0,_=>rfl
 |n+1,v=>by rw[fx,List.length_cons,fu n]
theorem qK:∀(n v:Nat),ca (fx n v)
 |0,_=>fun x aj=>by cases aj
 |n+1,v=>fun x aj=>by
  rw[fx]at aj
  rcases List.mem_cons.1 aj with rfl|aj
  ·omega
  ·exact qK n _ x aj
theorem Px:∀{xs:List Int},ca xs→fx xs.length (val xs)=xs
 |[],_=>rfl
 |x::xs,h=>by
  have dW:=h.head
  rw[List.length_cons,fx,val,show (x.toNat+16777216*val xs) / 16777216=val xs by omega,Px h.tail,show (((x.toNat+16777216*val xs) % 16777216:Nat):Int)=x by omega]
theorem CS:∀{n v:Nat},v<16777216^n→val (fx n v)=v
 |0,v,h=>by simp at h;subst h;rfl
 |n+1,v,h=>by
  rw[Nat.pow_succ]at h
  rw[fx,val,CS (by rw[Nat.div_lt_iff_lt_mul (by decide)];exact h)]
  omega
theorem aaR {xs:List Int} {n v:Nat} (h:ca xs) (aJ:xs.length=n) (aC:val xs=v):xs=fx n v:=by
 rw[←aJ,←aC,Px h]
theorem ajE (n:Nat):fx n 0=List.replicate n 0:=by
 refine(aaR (fun x aj=> ?_) (List.length_replicate ..) (CO n)).symm
 rw[List.eq_of_mem_replicate aj];decide
end RV
namespace RV
theorem akQ {out:List Int} {c p i T:Nat} (hi:i<out.length) (x:Nat) (aC:val (out.take i)+16777216^i*c=T):
 val ((out.set i ((((x*p:Nat):Int)+c) % 16777216)).take (i+1))+16777216^(i+1)*((((x*p:Nat):Int)+c) / 16777216).toNat=T+16777216^i*(x*p):=by
 rw[Ka hi,Nat.pow_succ,Nat.mul_assoc,Nat.add_assoc,←Nat.mul_add]
 have e:((((x*p:Nat):Int)+c) % 16777216).toNat+16777216*((((x*p:Nat):Int)+c) / 16777216).toNat=c+x*p:=by omega
 rw[e,Nat.mul_add,←Nat.add_assoc,aC]
def a5 (n:Nat):Nat:=if h:n=0 then 0 else if (2*a5 (n / 4)+1)*(2*a5 (n / 4)+1)≤n then 2*a5 (n / 4)+1 else 2*a5 (n / 4)
termination_by n
decreasing_by all_goals exact Nat.div_lt_self (Nat.pos_of_ne_zero h) (by decide)
theorem KY:a5 0=0:=by unfold a5;rw[dif_pos rfl]
theorem ZH (N d:Nat) (aL:d<4):a5 (4*N+d)=if (2*a5 N+1)*(2*a5 N+1)≤4*N+d then 2*a5 N+1 else 2*a5 N:=by
 by_cases h:4*N+d=0
 ·have:N=0:=by omega
  subst this
  rw[h,KY];rfl
 ·conv=>lhs;unfold a5
  rw[dif_neg h,show (4*N+d) / 4=N by omega]
theorem pf (n:Nat):a5 n*a5 n≤n∧n<(a5 n+1)*(a5 n+1):=by
 induction n using Nat.strongRecOn with
 |_ n cM=>
  by_cases h:n=0
  ·subst h;rw[KY];decide
  ·obtain⟨h1,h2⟩:=cM (n / 4) (by omega)
   have e:=ZH (n / 4) (n % 4) (by omega)
   rw[show 4*(n / 4)+n % 4=n by omega]at e
   rw[e]
   generalize a5 (n / 4)=r at*
   have bE:2*r*(2*r)=4*(r*r):=by
    rw[Nat.mul_mul_mul_comm]
   have bM:(r+1)*(r+1)=r*r+2*r+1:=by
    rw[Nat.add_mul,Nat.mul_add];omega
   have bn:(2*r+1)*(2*r+1)=4*(r*r)+4*r+1:=by
    rw[Nat.add_mul,Nat.mul_add,bE];omega
   have h5:(2*r+1+1)*(2*r+1+1)=4*(r*r)+8*r+4:=by
    rw[show 2*r+1+1=2*(r+1)by omega,Nat.mul_mul_mul_comm,bM];omega
   split
   ·rename_i au
    exact⟨au,by omega⟩
   ·rename_i au
    exact⟨by omega,by omega⟩
theorem ai5 {n r:Nat} (h1:r*r≤n) (h2:n<(r+1)*(r+1)):a5 n=r:=by
 obtain⟨aq,aE⟩:=pf n
 rcases Nat.lt_trichotomy (a5 n) r with h|h|h
 ·have:=Nat.mul_le_mul (show a5 n+1≤r from h) (show a5 n+1≤r from h)
  omega
 ·exact h
 ·have:=Nat.mul_le_mul (show r+1≤a5 n from h) (show r+1≤a5 n from h)
  omega
theorem akh (N d:Nat) (aL:d<4):
 (4*a5 N+1≤4*(N - a5 N*a5 N)+d↔a5 (4*N+d)=2*a5 N+1)∧(¬4*a5 N+1≤4*(N - a5 N*a5 N)+d↔a5 (4*N+d)=2*a5 N)∧
 4*N+d - a5 (4*N+d)*a5 (4*N+d)=if 4*a5 N+1≤4*(N - a5 N*a5 N)+d then 4*(N - a5 N*a5 N)+d - (4*a5 N+1)else 4*(N - a5 N*a5 N)+d:=by
 obtain⟨h1,h2⟩:=pf N
 have e:=ZH N d aL
 generalize a5 N=r at*
 have bE:2*r*(2*r)=4*(r*r):=by rw[Nat.mul_mul_mul_comm]
 have bn:(2*r+1)*(2*r+1)=4*(r*r)+4*r+1:=by
  rw[Nat.add_mul,Nat.mul_add,bE];omega
 by_cases c:(2*r+1)*(2*r+1)≤4*N+d
 ·rw[if_pos c]at e
  rw[e,if_pos (by omega),bn]
  refine⟨⟨fun _=>rfl,fun _=>by omega⟩,⟨fun h=>absurd (by omega) h,fun h=>by omega⟩,by omega⟩
 ·rw[if_neg c]at e
  rw[e,if_neg (by omega),bE]
  refine⟨⟨fun h=>by omega,fun h=>by omega⟩,⟨fun _=>rfl,fun _=>by omega⟩,by omega⟩
end RV
namespace RV
theorem OV (a q:Nat):(ao a).getD q 0=((a / 16777216^q % 16777216:Nat):Int):=by
 have h1:=J9 (c5 a) q
 have h2:=r5 (ao a) q
 have aq:=(c5 a).getD q
 rw[b5]at h1
 omega
theorem aki (a u:Nat):a / 16777216^(2*u / 24) % 16777216 / 2^(2*u % 24) % 4=a / 4^u % 4:=by
 have e:(4:Nat)^u=16777216^(2*u / 24)*2^(2*u % 24):=by
  rw[zb,←Nat.pow_add,show (4:Nat)=2^2 from rfl,←Nat.pow_mul]
  congr 1;omega
 rw[e,←Nat.div_div_eq_div_mul]
 generalize a / 16777216^(2*u / 24)=b
 obtain⟨r,ar⟩:∃r,r=2*u % 24:=⟨_,rfl⟩
 have qo:r+2≤24:=by omega
 rw[←ar]
 have k:16777216=2^r*(4*2^(22 - r)):=by
  rw[show (4:Nat)=2^2 from rfl,←Nat.pow_add,←Nat.pow_add,show r+(2+(22 - r))=24 by omega]
 conv=>lhs;rw[k,Nat.mod_mul_right_div_self,Nat.mod_mul_right_mod]
theorem ajF (a u:Nat):a / 4^u=4*(a / 4^(u+1))+a / 4^u % 4:=by
 rw[Nat.pow_succ,←Nat.div_div_eq_div_mul];omega
theorem ab8 {n b:Nat} (h:n<b*b):a5 n<b:=by
 have h1:=(pf n).1
 rcases Nat.lt_or_ge (a5 n) b with h2|h2
 ·exact h2
 ·have:=Nat.mul_le_mul h2 h2;omega
theorem akj (n:Nat):n - a5 n*a5 n≤2*a5 n:=by
 have:=(pf n).2
 rw[Nat.add_mul,Nat.mul_add]at this
 omega
end RV
namespace RV
structure a6 where
 neg:Bool
 m:Nat
 e:Int
deriving DecidableEq
def b2 (n:Nat):Nat:=if h:n=0 then 0 else if n % 2=1 then 0 else b2 (n / 2)+1
termination_by n
decreasing_by exact Nat.div_lt_self (Nat.pos_of_ne_zero h) (by decide)
theorem Lr {n:Nat} (h:n % 2=1):b2 n=0:=by
 unfold b2;rw[dif_neg (by omega),if_pos h]
theorem akR {n:Nat} (h0:n≠0) (h:n % 2=0):b2 n=b2 (n / 2)+1:=by
 conv=>lhs;unfold b2
 rw[dif_neg h0,if_neg (by omega)]
theorem jB {n:Nat} (h0:n≠0):n / 2^b2 n*2^b2 n=n∧n / 2^b2 n % 2=1:=by
 induction n using Nat.strongRecOn with
 |_ n cM=>
  by_cases h:n % 2=1
  ·rw[Lr h];simpa using h
  ·have:=cM (n / 2) (by omega) (by omega)
   rw[akR h0 (by omega),Nat.pow_succ,Nat.mul_comm (2^b2 (n / 2)) 2,←Nat.div_div_eq_div_mul,Nat.mul_comm 2,←Nat.mul_assoc,this.1]
   exact⟨by omega,this.2⟩
theorem ZI {n k:Nat} (h0:n≠0) (h:n % 2^k=0):k≤b2 n:=by
 have h1:=jB h0
 rcases Nat.lt_or_ge (b2 n) k with aJ|aJ
 ·exfalso
  obtain⟨q,a7⟩:=Nat.dvd_of_mod_eq_zero h
  have e:n / 2^b2 n*2^b2 n=(2^(k - b2 n - 1)*q*2)*2^b2 n:=by
   rw[h1.1]
   conv=>lhs;rw[a7,show k=(k - b2 n - 1)+1+b2 n by omega,Nat.pow_add,Nat.pow_succ]
   simp only[Nat.mul_comm,Nat.mul_assoc,Nat.mul_left_comm]
  have:=Nat.eq_of_mul_eq_mul_right (Nat.two_pow_pos _) e
  have h2:=h1.2
  rw[this]at h2
  omega
 ·exact aJ
theorem W2 {a b i j:Nat} (a9:a % 2=1) (aw:b % 2=1) (h:a*2^i=b*2^j):a=b∧i=j:=by
 have key:∀{a b i j:Nat},a % 2=1→a*2^i=b*2^j→j≤i:=fun {a b i j} a9 h=>by
  rcases Nat.lt_or_ge i j with aJ|aJ
  ·exfalso
   have e:a*2^i=(b*2^(j - i - 1)*2)*2^i:=by
    rw[h];conv=>lhs;rw[show j=(j - i - 1)+1+i by omega,Nat.pow_add,Nat.pow_succ]
    simp only[Nat.mul_assoc]
   have:=Nat.eq_of_mul_eq_mul_right (Nat.two_pow_pos _) e
   omega
  ·exact aJ
 have e:i=j:=Nat.le_antisymm (key aw h.symm) (key a9 h)
 subst e
 exact⟨Nat.eq_of_mul_eq_mul_right (Nat.two_pow_pos _) h,rfl⟩
def mk (neg:Bool) (m:Nat) (e:Int):a6:=if m=0 then ⟨false,0,0⟩else ⟨neg,m / 2^b2 m,e+b2 m⟩
def a6.ok (d:a6):Prop:=(d.m=0→d.neg=false∧d.e=0)∧(d.m≠0→d.m % 2=1)
def dx (d:a6):a6:=⟨!d.neg && decide (d.m≠0),d.m,d.e⟩
def gU (d:a6) (k:Int):a6:=mk d.neg d.m (d.e+k)
def dZ (a b:a6):a6:=
 if a.m=0 then b else if b.m=0 then a else
 if a.neg=b.neg then mk a.neg (a.m*2^(a.e - min a.e b.e).toNat+b.m*2^(b.e - min a.e b.e).toNat) (min a.e b.e)
 else if b.m*2^(b.e - min a.e b.e).toNat≤a.m*2^(a.e - min a.e b.e).toNat then mk a.neg (a.m*2^(a.e - min a.e b.e).toNat - b.m*2^(b.e - min a.e b.e).toNat) (min a.e b.e)
 else mk b.neg (b.m*2^(b.e - min a.e b.e).toNat - a.m*2^(a.e - min a.e b.e).toNat) (min a.e b.e)
def cD (a b:a6):a6:=mk (a.neg !=b.neg) (a.m*b.m) (a.e+b.e)
def ia (d:a6):Int:=if d.m=0 then 0 else if d.neg then -1 else 1
def ej (a b:a6):Int:=ia (dZ a (dx b))
def gy (d:a6) (n:Int) (up:Bool):a6:=
 if bp d.m - n≤0 then d else mk d.neg (d.m / 2^(bp d.m - n).toNat+(if up=d.neg then 0 else 1)) (d.e+(bp d.m - n))
theorem qS (neg:Bool) (m:Nat) (e:Int):(mk neg m e).ok:=by
 unfold mk a6.ok
 split
 ·simp
 ·rename_i h
  have:=jB h
  exact⟨fun e=>by simp only at e;omega,fun _=>this.2⟩
theorem akS {d:a6} (h:d.ok):mk d.neg d.m d.e=d:=by
 unfold mk
 split
 ·rename_i h0
  obtain⟨a,b⟩:=h.1 h0
  cases d;simp_all
 ·rename_i h0
  have:=h.2 h0
  rw[Lr this]
  cases d;simp
theorem Kh {d:a6} (h:d.ok):gU d 0=d:=by
 unfold gU;rw[Int.add_zero,akS h]
theorem ZJ {d:a6} (h:d.ok):mk (!d.neg) d.m d.e=dx d:=by
 unfold mk dx
 split
 ·rename_i h0
  obtain⟨a,b⟩:=h.1 h0
  cases d;simp_all
 ·rename_i h0
  rw[Lr (h.2 h0)]
  simp[h0]
theorem CT {d:a6} (h:d.ok):(dx d).ok:=by rw[←ZJ h];exact qS ..
theorem Lb {a b:a6} (a9:a.ok) (aw:b.ok):(dZ a b).ok:=by
 unfold dZ
 repeat' split
 all_goals first|assumption|exact qS ..
def dU (neg:Bool) (m:Nat):Int:=if neg then -(m:Int)else m
def a6.V (E:Int) (d:a6):Int:=dU d.neg d.m*2^(d.e - E).toNat
def a6.win (lo hi:Int) (d:a6):Prop:=d.ok∧(d.m≠0→lo≤d.e∧d.e+bp d.m≤hi)
theorem alx (a b:Bool) (m n:Nat):dU a m*dU b n=dU (a !=b) (m*n):=by
 cases a<;>cases b<;>simp[dU,Int.neg_mul,Int.mul_neg]
theorem ZK (a:Bool) (m k:Nat):dU a (m*2^k)=dU a m*2^k:=by
 cases a<;>simp[dU,Int.neg_mul]
theorem GH (a:Bool) (m:Nat):(dU a m).natAbs=m:=by cases a<;>simp[dU]
theorem wS {E:Int} (neg:Bool) (m:Nat) {e:Int} (h:E≤e):(mk neg m e).V E=dU neg m*2^(e - E).toNat:=by
 unfold mk
 split
 ·rename_i h0;subst h0;cases neg<;>simp[a6.V,dU]
 ·rename_i h0
  have:=(jB h0).1
  unfold a6.V
  rw[show (e+(b2 m:Int) - E).toNat=b2 m+(e - E).toNat by omega,Int.pow_add,←Int.mul_assoc,←ZK,this]
theorem k6 {E:Int} {d:a6} (h:d.m=0):d.V E=0:=by unfold a6.V;rw[h];cases d.neg<;>simp[dU]
theorem adZ {E:Int} {d:a6} (h:d.m≠0):d.V E≠0:=by
 intro e
 unfold a6.V at e
 have:=congrArg Int.natAbs e
 rw[Int.natAbs_mul,GH]at this
 rcases Nat.mul_eq_zero.1 this with h1|h1
 ·exact h h1
 ·have h2:((2:Int)^(d.e - E).toNat).natAbs=2^(d.e - E).toNat:=by rw[Int.natAbs_pow];rfl
  rw[h2]at h1
  exact absurd h1 (Nat.ne_of_gt (Nat.two_pow_pos _))
theorem al9 {E:Int} {a b:a6} (a9:a.ok) (aw:b.ok) (cI:a.m≠0→E≤a.e) (dC:b.m≠0→E≤b.e) (h:a.V E=b.V E):a=b:=by
 by_cases h0:a.m=0
 ·have:b.m=0:=Decidable.byContradiction fun h1=>adZ h1 (by rw[←h,k6 h0])
  obtain⟨x,y⟩:=a9.1 h0
  obtain⟨z,u⟩:=aw.1 this
  cases a;cases b;simp_all
 ·by_cases h1:b.m=0
  ·exact absurd (by rw[h,k6 h1]) (adZ (E:=E) h0)
  ·have WD:=a9.2 h0
   have cv:=aw.2 h1
   have cI:=cI h0
   have dC:=dC h1
   have aQ:=congrArg Int.natAbs h
   unfold a6.V at aQ h
   rw[Int.natAbs_mul,Int.natAbs_mul,GH,GH,Int.natAbs_pow,Int.natAbs_pow]at aQ
   have:=W2 WD cv aQ
   have he:a.e=b.e:=by omega
   rw[←this.2,←this.1]at h
   have a1:(0:Int)<2^(a.e - E).toNat:=Int.pow_pos (by decide)
   have:=Int.eq_of_mul_eq_mul_right (Int.ne_of_gt a1) h
   have amZ:a.neg=b.neg:=by
    cases Cz:a.neg<;>cases arb:b.neg<;>simp[dU,Cz,arb]at this<;>first|rfl|omega
   cases a;cases b;simp_all
theorem win.lo {lo hi:Int} {d:a6} (h:d.win lo hi) {E:Int} (l:E≤lo):d.m≠0→E≤d.e:=fun h0=>by have:=(h.2 h0).1;omega
theorem win.up {lo hi lo' hi':Int} {d:a6} (h:d.win lo hi) (l:lo'≤lo) (k:hi≤hi'):d.win lo' hi':=⟨h.1,fun h0=>by have:=h.2 h0;omega⟩
theorem ab9 {E:Int} {d:a6} :ia d=(d.V E).sign:=by
 unfold ia
 split
 ·rename_i h0;rw[k6 h0];rfl
 ·rename_i h0
  unfold a6.V
  have a1:(0:Int)<2^(d.e - E).toNat:=Int.pow_pos (by decide)
  rw[Int.sign_mul,Int.sign_eq_one_of_pos a1,Int.mul_one]
  unfold dU
  split
  ·rw[Int.sign_eq_neg_one_of_neg];omega
  ·rw[Int.sign_eq_one_of_pos];omega
theorem aca {E:Int} (d:a6):(dx d).V E= - d.V E:=by
 by_cases h0:d.m=0
 ·rw[k6 h0,k6 (by exact h0)];rfl
 ·unfold a6.V dx
  simp only[h0,ne_eq,not_false_eq_true,decide_true,Bool.and_true]
  rw[←Int.neg_mul]
  congr 1
  unfold dU
  cases d.neg<;>simp
theorem aly {a:Bool} (x y:Nat):dU a (x+y)=dU a x+dU a y:=by cases a<;>simp[dU];omega
theorem acb {a b:Bool} (h:a≠b) {x y:Nat} (l:y≤x):dU a (x - y)=dU a x+dU b y:=by
 cases a<;>cases b<;>simp[dU]at* <;>omega
theorem QJ {E:Int} {a b:a6} (cI:a.m≠0→E≤a.e) (dC:b.m≠0→E≤b.e):(dZ a b).V E=a.V E+b.V E:=by
 unfold dZ
 by_cases h0:a.m=0
 ·rw[if_pos h0,k6 h0,Int.zero_add]
 ·rw[if_neg h0]
  by_cases h1:b.m=0
  ·rw[if_pos h1,k6 h1,Int.add_zero]
  ·rw[if_neg h1]
   have cI:=cI h0
   have dC:=dC h1
   have le:E≤min a.e b.e:=by omega
   have key:∀d:a6,min a.e b.e≤d.e→dU d.neg (d.m*2^(d.e - min a.e b.e).toNat)*2^(min a.e b.e - E).toNat=d.V E:=fun d aL=>by
    rw[ZK,Int.mul_assoc,←Int.pow_add]
    unfold a6.V
    rw[show (d.e - min a.e b.e).toNat+(min a.e b.e - E).toNat=(d.e - E).toNat by omega]
   have WE:=key a (by omega)
   have WG:=key b (by omega)
   split
   ·rename_i aG
    rw[wS _ _ le,aly,Int.add_mul,WE,aG,WG]
   ·rename_i aG
    split
    ·rename_i aJ
     rw[wS _ _ le,acb aG aJ,Int.add_mul,WE,WG]
    ·rename_i aJ
     rw[wS _ _ le,acb (Ne.symm aG) (by omega),Int.add_mul,WE,WG,Int.add_comm]
theorem ama {E F:Int} {a b:a6} (cI:a.m≠0→E≤a.e) (dC:b.m≠0→F≤b.e):(cD a b).V (E+F)=a.V E*b.V F:=by
 unfold cD
 by_cases h0:a.m=0
 ·rw[k6 h0,k6 (by unfold mk;rw[h0,Nat.zero_mul,if_pos rfl]),Int.zero_mul]
 ·by_cases h1:b.m=0
  ·rw[k6 h1,k6 (by unfold mk;rw[h1,Nat.mul_zero,if_pos rfl]),Int.mul_zero]
  ·have cI:=cI h0
   have dC:=dC h1
   rw[wS _ _ (by omega),←alx,show (a.e+b.e - (E+F)).toNat=(a.e - E).toNat+(b.e - F).toNat by omega,Int.pow_add]
   unfold a6.V
   simp only[Int.mul_assoc,Int.mul_left_comm,Int.mul_comm]
theorem akT {E:Int} {d:a6} (k:Int) (l:d.m≠0→E≤d.e):(gU d k).V (E+k)=d.V E:=by
 unfold gU
 by_cases h0:d.m=0
 ·rw[k6 h0,k6 (by unfold mk;rw[if_pos h0])]
 ·have l:=l h0
  rw[wS _ _ (by omega)]
  unfold a6.V
  rw[show (d.e+k - (E+k))=d.e - E by omega]
theorem ZL {E:Int} (d:a6):(d.V E).natAbs=d.m*2^(d.e - E).toNat:=by
 unfold a6.V
 rw[Int.natAbs_mul,GH,Int.natAbs_pow];rfl
theorem W8 {E:Int} {d:a6} (h0:d.m≠0) (l:E≤d.e) (hi:Int):d.e+bp d.m≤hi↔E≤hi∧(d.V E).natAbs<2^(hi - E).toNat:=by
 rw[ZL,←jP,p2 h0]
 omega
theorem PT {neg:Bool} {m:Nat} {e:Int} (h:(mk neg m e).m≠0):m≠0:=fun h0=>h (by unfold mk;rw[if_pos h0])
theorem p8 {neg:Bool} {m:Nat} {e lo:Int} (l:lo≤e):(mk neg m e).m≠0→lo≤(mk neg m e).e:=fun h=>by
 have:=PT h
 unfold mk
 rw[if_neg this]
 show lo≤e+(b2 m:Int)
 omega
theorem Py {lo hi:Int} {d:a6} (h:d.ok) (l:d.m≠0→lo≤d.e) (k:lo≤hi) (aC:(d.V lo).natAbs<2^(hi - lo).toNat):d.win lo hi:=
 ⟨h,fun h0=>⟨l h0,(W8 h0 (l h0) hi).2 ⟨k,aC⟩⟩⟩
theorem ad0 {lo hi:Int} {d:a6} (h:d.win lo hi):(d.V lo).natAbs<2^(hi - lo).toNat:=by
 by_cases h0:d.m=0
 ·rw[k6 h0];exact Nat.two_pow_pos _
 ·have:=h.2 h0
  exact((W8 h0 this.1 hi).1 this.2).2
theorem akk {lo hi:Int} {d:a6} (h:d.ok) (h0:d.m=0):d.win lo hi:=⟨h,fun h1=>absurd h0 h1⟩
theorem sg {lo hi:Int} {neg:Bool} {m:Nat} {e:Int} (h:m≠0→lo≤e∧e+bp m≤hi):(mk neg m e).win lo hi:=by
 by_cases h0:m=0
 ·exact akk (qS ..) (by unfold mk;rw[if_pos h0])
 ·obtain⟨l,k⟩:=h h0
  refine Py (qS ..) (p8 l) (by omega) ?_
  rw[wS _ _ l,Int.natAbs_mul,GH,Int.natAbs_pow]
  show m*2^(e - lo).toNat<_
  rw[←jP,p2 h0]
  omega
theorem iJ {lo hi:Int} {d:a6} (h:d.win lo hi):(dx d).win lo hi:=⟨CT h.1,h.2⟩
theorem PU {lo:Int} {a b:a6} (cI:a.m≠0→lo≤a.e) (dC:b.m≠0→lo≤b.e):(dZ a b).m≠0→lo≤(dZ a b).e:=by
 unfold dZ
 by_cases h0:a.m=0
 ·rw[if_pos h0];exact dC
 ·rw[if_neg h0]
  by_cases h1:b.m=0
  ·rw[if_pos h1];exact cI
  ·rw[if_neg h1]
   have cI:=cI h0
   have dC:=dC h1
   repeat' split
   all_goals exact p8 (by omega)
theorem qL {lo hi:Int} {a b:a6} (a9:a.win lo hi) (aw:b.win lo hi):(dZ a b).win lo (hi+1):=by
 by_cases h0:a.m=0
 ·unfold dZ;rw[if_pos h0];exact win.up aw (Int.le_refl _) (by omega)
 ·by_cases h1:b.m=0
  ·unfold dZ;rw[if_neg h0,if_pos h1];exact win.up a9 (Int.le_refl _) (by omega)
  ·have:=a9.2 h0
   have a1:=xM h0
   refine Py (Lb a9.1 aw.1) (PU (win.lo a9 (Int.le_refl _)) (win.lo aw (Int.le_refl _))) (by omega) ?_
   rw[QJ (win.lo a9 (Int.le_refl _)) (win.lo aw (Int.le_refl _))]
   have WB:=ad0 a9
   have WC:=ad0 aw
   rw[show (hi+1 - lo).toNat=(hi - lo).toNat+1 by omega,Nat.pow_succ]
   omega
theorem AR {lo hi lo' hi':Int} {a b:a6} (a9:a.win lo hi) (aw:b.win lo' hi'):(cD a b).win (lo+lo') (hi+hi'):=by
 unfold cD
 refine sg fun h=> ?_
 have h0:a.m≠0:=fun e=>h (by rw[e,Nat.zero_mul])
 have h1:b.m≠0:=fun e=>h (by rw[e,Nat.mul_zero])
 have:=a9.2 h0
 have:=aw.2 h1
 have:=CH a.m b.m
 omega
theorem OW {lo hi:Int} {d:a6} (h:d.win lo hi) (k:Int):(gU d k).win (lo+k) (hi+k):=by
 unfold gU
 refine sg fun h0=> ?_
 have:=h.2 h0
 omega
theorem Pz {lo hi:Int} {d:a6} (h:d.win lo hi) (n:Int) (aQ:0≤n) (up:Bool):(gy d n up).win lo (hi+1):=by
 unfold gy
 split
 ·exact win.up h (Int.le_refl _) (by omega)
 ·rename_i af
  by_cases h0:d.m=0
  ·rw[h0,eE]at af;omega
  ·have hw:=h.2 h0
   refine sg fun _=>⟨by omega,?_⟩
   have aG:=KX d.m (bp d.m - n).toNat
   have a9:=AE (d.m / 2^(bp d.m - n).toNat) (if up=d.neg then 0 else 1)
   have h1:bp (if up=d.neg then 0 else 1)≤1:=by split<;>decide
   have:0<bp d.m:=xM h0
   by_cases dS:n=0
   ·subst dS
    have:(↑(bp d.m) - (0:Int)).toNat=bp d.m:=by omega
    rw[this]at*
    rw[Nat.div_eq_of_lt (k4 d.m),Nat.zero_add]at*
    omega
   ·omega
theorem ac5 {E:Int} {a b:a6} (cI:a.m≠0→E≤a.e) (dC:b.m≠0→E≤b.e):ej a b=(a.V E - b.V E).sign:=by
 unfold ej
 rw[ab9 (E:=E),QJ cI (show (dx b).m≠0→E≤(dx b).e from dC),aca,Int.sub_eq_add_neg]
theorem alz {E:Int} {a b:a6} (cI:a.m≠0→E≤a.e) (dC:b.m≠0→E≤b.e):ej a b≤0↔a.V E≤b.V E:=by
 rw[ac5 cI dC,Int.sign_nonpos_iff];omega
theorem alA {E:Int} {a b:a6} (cI:a.m≠0→E≤a.e) (dC:b.m≠0→E≤b.e):ej a b<0↔a.V E<b.V E:=by
 rw[ac5 cI dC,Int.sign_neg_iff];omega
end RV
namespace RV
theorem ac6 {n o t:Nat} (h:n=o*2^t) (bu:o % 2=1):b2 n=t:=by
 have h0:n≠0:=fun e=>by
  rw[e]at h
  rcases Nat.mul_eq_zero.1 h.symm with h1|h1
  ·omega
  ·exact absurd h1 (Nat.ne_of_gt (Nat.two_pow_pos t))
 have aG:=jB h0
 exact(W2 aG.2 bu (aG.1.trans h)).2
theorem OX {n:Nat} (h:n≠0) (k:Nat):b2 (2^k*n)=k+b2 n:=by
 have aG:=jB h
 refine ac6 (o:=n / 2^b2 n) ?_ aG.2
 conv=>lhs;rw[←aG.1]
 rw[Nat.pow_add,Nat.mul_left_comm]
theorem KG {n:Nat} (h:n≠0):2^b2 n≤n:=by
 have aG:=jB h
 have h2:=aG.2
 conv=>rhs;rw[←aG.1]
 exact Nat.le_mul_of_pos_left _ (Nat.pos_of_ne_zero fun h=>by rw[h]at h2;cases h2)
theorem x1 {n k:Nat} (h:n≠0) (af:n<2^k):b2 n<k:=(Nat.pow_lt_pow_iff_right (a:=2) (by decide)).1 (Nat.lt_of_le_of_lt (KG h) af)
theorem alB {x r:Nat} (h:x≠0) (aj:x<16777216):b2 (x+16777216*r)=b2 x:=by
 have aG:=jB h
 have ah:=x1 (k:=24) h (by simpa using aj)
 have h2:=aG.2
 refine ac6 (o:=x / 2^b2 x+2*(2^(23 - b2 x)*r)) ?_ ?_
 ·rw[Nat.add_mul,aG.1]
  congr 1
  have:16777216=2*2^(23 - b2 x)*2^b2 x:=by
   rw[←Nat.pow_succ',←Nat.pow_add,show (23 - b2 x).succ+b2 x=24 by omega]
  rw[show 2*(2^(23 - b2 x)*r)*2^b2 x=2*2^(23 - b2 x)*2^b2 x*r by simp only[Nat.mul_assoc,Nat.mul_left_comm,Nat.mul_comm],←this]
 ·omega
theorem W9:∀{xs:List Int} {i:Nat},(∀k,k<i→xs.getD k 0=0)→val (xs.take i)=0
 |_,0,_=>by simp[val]
 |[],_+1,_=>by simp[val]
 |x::xs,i+1,h=>by
  have h0:=h 0 (by omega)
  simp only[List.getD_cons_zero]at h0
  rw[List.take_succ_cons,val,h0,W9 (fun k af=>by have:=h (k+1) (by omega);simpa using this)]
  rfl
theorem akl {n i:Nat} (hi:i<(ao n).length) (h:∀k,k<i→(ao n).getD k 0=0) (eZ:(ao n).getD i 0≠0):b2 n=24*i+b2 ((ao n).getD i 0).toNat:=by
 have aC:=GF (ao n) i (by omega)
 rw[W9 h,Nat.zero_add,b5,r5]at aC
 have aL:=(c5 n).getD i
 have e:n=2^(24*i)*(((ao n).getD i 0).toNat+16777216*val ((ao n).drop (i+1))):=by rw[←zb];exact aC
 conv=>lhs;rw[e]
 rw[OX (by omega),alB (by omega) (by omega)]
end RV
namespace RV.Dr
open Go RV
set_option linter.unusedSimpArgs false
set_option linter.unusedVariables false
set_option maxRecDepth 100000
set_option maxHeartbeats 4000000
def lg:bC where
 pre:=fun ds=>∃n:Nat,ds=[aZ n]∧(ao n).length≤100000
 res:=fun ds=>match ds with
  |[.ints _ xs]=> .int .i64 (bp (val xs))
  |_=> .nilp
theorem am0 (Γ:Env) (ds:List D) (h:lg.pre ds):bT Γ LY HQ ds fun d=>d=lg.res ds:=by
 obtain⟨n,rfl,hlen⟩:=h
 by_cases h0:n=0
 ·subst h0
  simp (maxSteps:=2000000) only[↓al,ak,↓reduceIte,reduceCtorEq,Nat.reduceEqDiff,Nat.reduceLeDiff,Nat.reduceSub,Nat.reduceAdd,Int.reduceToNat,Nat.reducePow,Int.reducePow,Int.reduceLE,Int.reduceLT,IntKind.bits,LY,HQ,lg,hk,List.length_nil]
  rfl
 ·have a1:=xG h0
  have e8:(((ao n).length:Int)==0)=false:=beq_false_of_ne (by omega)
  have aw:=ZC (c5 n) (ZD h0) (J2 h0)
  have aL:=(c5 n).getD ((ao n).length - 1)
  have a4:(((ao n).length:Int) - 1).toNat=(ao n).length - 1:=by omega
  have bR:(0:Int)≤((ao n).length:Int) - 1:=by omega
  have cN:((ao n).length - 1)<(ao n).length:=by omega
  simp (maxSteps:=2000000) only[↓al,ak,↓reduceIte,reduceCtorEq,Nat.reduceEqDiff,Nat.reduceLeDiff,Nat.reduceSub,Nat.reduceAdd,Int.reduceToNat,Nat.reducePow,Int.reducePow,Int.reduceLE,Int.reduceLT,IntKind.bits,LY,HQ,lg,e8,a4,bR,cN,b5]
  rw[b5]at aw
  refine⟨by simp only[aO];omega,by simp only[aO];omega,?_⟩
  refine bZ (fun s=>s.ag 3= .d (.int .i64 (bp n))) ?_ ?_
  ·simp (maxSteps:=2000000) only[↓al,ak,↓reduceIte,reduceCtorEq,Nat.reduceEqDiff,Nat.reduceLeDiff,Nat.reduceSub,Nat.reduceAdd,Int.reduceToNat,Nat.reducePow,Int.reducePow,Int.reduceLE,Int.reduceLT,IntKind.bits,e8,a4,bR,cN]
   refine⟨?_,by omega,?_⟩
   ·first|omega|(simp only[aO];omega)
   refine fp (fun s=>∃t x:Nat,s.ag 3= .d (.int .i64 t)∧s.ag 4= .d (.int .i64 x)∧x<16777216∧t≤10000000∧t+bp x=bp n)
    (fun s=>match s.ag 4 with| .d (.int _ n)=>n.toNat|_=>0) ?_ ?_
   ·refine⟨24*((ao n).length - 1),((ao n).getD ((ao n).length - 1) 0).toNat,?_⟩
    simp (maxSteps:=2000000) only[↓al,ak,↓reduceIte,reduceCtorEq,Nat.reduceEqDiff,Nat.reduceLeDiff,Nat.reduceSub,Nat.reduceAdd,Int.reduceToNat,Nat.reducePow,Int.reducePow,Int.reduceLE,Int.reduceLT,IntKind.bits]
    refine⟨?_,?_,by omega,by omega,by omega⟩
    ·congr 3;omega
    ·congr 3;omega
   ·rintro s ⟨t,x,aq,aE,aj,ah,aC⟩
    by_cases aht:(x:Int)>0
    ·have dW:=Yw (n:=x) (by omega)
     have ix:bp x≤24:=jP.2 (by simpa using aj)
     have asq:=Ay n
     have aoN:(x:Int).tdiv 2=((x / 2:Nat):Int):=by rw[Int.tdiv_eq_ediv_of_nonneg (by omega)];omega
     simp (maxSteps:=2000000) only[↓al,ak,↓reduceIte,reduceCtorEq,Nat.reduceEqDiff,Nat.reduceLeDiff,Nat.reduceSub,Nat.reduceAdd,Int.reduceToNat,Nat.reducePow,Int.reducePow,Int.reduceLE,Int.reduceLT,IntKind.bits,aq,aE,aht,aoN]
     repeat (refine And.intro (by first|omega|(simp only[aO];omega)|(simp only[aO]at*;omega)|(simp only[List.length_append,List.length_cons,List.length_nil,List.length_set,b4];omega)) ?_)
     refine⟨⟨t+1,x / 2,by first|rfl|(congr 3),rfl,by omega,by omega,by omega⟩,by omega⟩
    ·simp (maxSteps:=2000000) only[↓al,ak,↓reduceIte,reduceCtorEq,Nat.reduceEqDiff,Nat.reduceLeDiff,Nat.reduceSub,Nat.reduceAdd,Int.reduceToNat,Nat.reducePow,Int.reducePow,Int.reduceLE,Int.reduceLT,IntKind.bits,aq,aE,aht]
     have:x=0:=by omega
     subst this
     rw[eE]at aC
     rw[←aC];rfl
  ·rintro s aq
   simp (maxSteps:=2000000) only[↓al,ak,↓reduceIte,reduceCtorEq,Nat.reduceEqDiff,Nat.reduceLeDiff,Nat.reduceSub,Nat.reduceAdd,Int.reduceToNat,Nat.reducePow,Int.reducePow,Int.reduceLE,Int.reduceLT,IntKind.bits,aq,HQ]
def sl (xs:List Int):Bool:=(xs.all fun x=>decide (0≤x) && decide (x<16777216)) && (decide (xs.length≤300) && (decide (xs.length=0)||decide (xs.getD (xs.length - 1) 0≠0)))
def qt:bC where
 pre:=fun ds=>∃xs:List Int,ds=[.ints .i64 xs]∧xs.length≤100000
 res:=fun ds=>match ds with
  |[.ints _ xs]=> .bool (sl xs)
  |_=> .nilp
theorem XB {xs:List Int} {i:Nat} (hi:i<xs.length) (h:xs.getD i 0<0∨xs.getD i 0≥16777216):sl xs=false:=by
 unfold sl
 rw[Bool.and_eq_false_iff]
 left
 rw[List.all_eq_false]
 refine⟨xs[i],List.getElem_mem hi,?_⟩
 rw[List.getD_eq_getElem?_getD,List.getElem?_eq_getElem hi]at h
 simp only[Option.getD_some]at h
 simp only[Bool.and_eq_true,decide_eq_true_eq]
 omega
theorem I2 (Γ:Env) (ds:List D) (h:qt.pre ds):bT Γ Vc Vd ds fun d=>d=qt.res ds:=by
 obtain⟨xs,rfl,hlen⟩:=h
 simp (maxSteps:=2000000) only[↓al,ak,↓reduceIte,reduceCtorEq,Nat.reduceEqDiff,Nat.reduceLeDiff,Nat.reduceSub,Nat.reduceAdd,Int.reduceToNat,Nat.reducePow,Int.reducePow,Int.reduceLE,Int.reduceLT,IntKind.bits,Vc,Vd,qt]
 refine bZ (fun s=>s.ag 0= .d (.ints .i64 xs)∧ca xs) ?_ ?_
 ·simp (maxSteps:=2000000) only[↓al,ak,↓reduceIte,reduceCtorEq,Nat.reduceEqDiff,Nat.reduceLeDiff,Nat.reduceSub,Nat.reduceAdd,Int.reduceToNat,Nat.reducePow,Int.reducePow,Int.reduceLE,Int.reduceLT,IntKind.bits]
  refine fp (fun s=>∃i:Nat,s.ag 0= .d (.ints .i64 xs)∧s.ag 3= .d (.int .i64 i)∧i≤xs.length∧ca (xs.take i))
   (fun s=>match s.ag 3 with| .d (.int _ n)=>xs.length - n.toNat|_=>0) ?_ ?_
  ·refine⟨0,?_⟩
   simp (maxSteps:=2000000) only[↓al,ak,↓reduceIte,reduceCtorEq,Nat.reduceEqDiff,Nat.reduceLeDiff,Nat.reduceSub,Nat.reduceAdd,Int.reduceToNat,Nat.reducePow,Int.reducePow,Int.reduceLE,Int.reduceLT,IntKind.bits]
   exact⟨rfl,Nat.zero_le _,fun x aj=>by simp at aj⟩
  ·rintro s ⟨i,h0,aq,hi,aJ⟩
   by_cases ci:(i:Int)<xs.length
   ·have bR:i<xs.length:=by omega
    by_cases iU:xs.getD i 0<0
    ·simp (maxSteps:=2000000) only[↓al,ak,↓reduceIte,reduceCtorEq,Nat.reduceEqDiff,Nat.reduceLeDiff,Nat.reduceSub,Nat.reduceAdd,Int.reduceToNat,Nat.reducePow,Int.reducePow,Int.reduceLE,Int.reduceLT,IntKind.bits,h0,aq,ci,bR,iU]
     exact⟨by omega,by rw[XB bR (.inl iU)]⟩
    ·by_cases kW:xs.getD i 0≥16777216
     ·simp (maxSteps:=2000000) only[↓al,ak,↓reduceIte,reduceCtorEq,Nat.reduceEqDiff,Nat.reduceLeDiff,Nat.reduceSub,Nat.reduceAdd,Int.reduceToNat,Nat.reducePow,Int.reducePow,Int.reduceLE,Int.reduceLT,IntKind.bits,h0,aq,ci,bR,iU,kW]
      exact⟨by omega,by omega,by rw[XB bR (.inr kW)]⟩
     ·simp (maxSteps:=2000000) only[↓al,ak,↓reduceIte,reduceCtorEq,Nat.reduceEqDiff,Nat.reduceLeDiff,Nat.reduceSub,Nat.reduceAdd,Int.reduceToNat,Nat.reducePow,Int.reducePow,Int.reduceLE,Int.reduceLT,IntKind.bits,h0,aq,ci,bR,iU,kW]
      refine⟨by omega,by omega,by simp only[aO];omega,⟨i+1,rfl,by omega,?_⟩,by omega⟩
      rw[List.take_add_one,List.getElem?_eq_getElem bR]
      rw[List.getD_eq_getElem?_getD,List.getElem?_eq_getElem bR]at iU kW
      simp only[Option.getD_some]at iU kW
      exact aJ.append fun y hy=>by
       simp only[Option.toList_some,List.mem_singleton]at hy
       subst hy;omega
   ·simp (maxSteps:=2000000) only[↓al,ak,↓reduceIte,reduceCtorEq,Nat.reduceEqDiff,Nat.reduceLeDiff,Nat.reduceSub,Nat.reduceAdd,Int.reduceToNat,Nat.reducePow,Int.reducePow,Int.reduceLE,Int.reduceLT,IntKind.bits,h0,aq,ci]
    rw[List.take_of_length_le (by omega)]at aJ
    exact aJ
 ·rintro s ⟨h0,aJ⟩
  have gY:(xs.all fun x=>decide (0≤x) && decide (x<16777216))=true:=by
   rw[List.all_eq_true]
   intro x aj
   have:=aJ x aj
   simp only[Bool.and_eq_true,decide_eq_true_eq]
   omega
  have cA:sl xs=(decide (xs.length≤300) && (decide (xs.length=0)||decide (xs.getD (xs.length - 1) 0≠0))):=by
   unfold sl;rw[gY];rfl
  by_cases bR:(xs.length:Int)≤300
  ·have d1:xs.length≤300:=by omega
   by_cases cN:(xs.length:Int)=0
   ·have d2:xs=[]:=List.eq_nil_of_length_eq_zero (by omega)
    subst d2
    simp (maxSteps:=2000000) only[↓al,ak,↓reduceIte,reduceCtorEq,Nat.reduceEqDiff,Nat.reduceLeDiff,Nat.reduceSub,Nat.reduceAdd,Int.reduceToNat,Nat.reducePow,Int.reducePow,Int.reduceLE,Int.reduceLT,IntKind.bits,h0,cA,List.length_nil,Int.natCast_zero]
   ·have d2:¬xs.length=0:=by omega
    have a4:((xs.length:Int) - 1).toNat=xs.length - 1:=by omega
    have bc:(0:Int)≤(xs.length:Int) - 1:=by omega
    have c8:xs.length - 1<xs.length:=by omega
    have w9:((xs.length:Int)==0)=false:=by simpa using cN
    by_cases fL:xs.getD (xs.length - 1) 0=0
    ·simp (maxSteps:=2000000) only[↓al,ak,↓reduceIte,reduceCtorEq,Nat.reduceEqDiff,Nat.reduceLeDiff,Nat.reduceSub,Nat.reduceAdd,Int.reduceToNat,Nat.reducePow,Int.reducePow,Int.reduceLE,Int.reduceLT,IntKind.bits,h0,bR,w9,cA,d1,d2,a4,bc,c8,fL]
     repeat (refine And.intro (by first|omega|(simp only[aO];omega)|(simp only[aO]at*;omega)|(simp only[List.length_append,List.length_cons,List.length_nil,List.length_set,b4];omega)) ?_)
     first|omega|simp
    ·simp (maxSteps:=2000000) only[↓al,ak,↓reduceIte,reduceCtorEq,Nat.reduceEqDiff,Nat.reduceLeDiff,Nat.reduceSub,Nat.reduceAdd,Int.reduceToNat,Nat.reducePow,Int.reducePow,Int.reduceLE,Int.reduceLT,IntKind.bits,h0,bR,w9,cA,d1,d2,a4,bc,c8,fL]
     repeat (refine And.intro (by first|omega|(simp only[aO];omega)|(simp only[aO]at*;omega)|(simp only[List.length_append,List.length_cons,List.length_nil,List.length_set,b4];omega)) ?_)
     simpa using fL
  ·have d1:¬xs.length≤300:=by omega
   simp (maxSteps:=2000000) only[↓al,ak,↓reduceIte,reduceCtorEq,Nat.reduceEqDiff,Nat.reduceLeDiff,Nat.reduceSub,Nat.reduceAdd,Int.reduceToNat,Nat.reducePow,Int.reducePow,Int.reduceLE,Int.reduceLT,IntKind.bits,h0,bR,cA,d1]
   first|done|rfl
def iB:bC where
 pre:=fun ds=>∃(xs:List Int) (k:Int),ds=[.ints .i64 xs,.int .i64 k]∧ca xs∧xs.length≤10000∧k≤200000
 res:=fun ds=>match ds with
  |[.ints _ xs,.int _ k]=>aZ (val xs*2^k.toNat)
  |_=> .nilp
theorem I3 (Γ:Env) (f124:Γ.fn 124=some iv) (q0:Γ.mt 124=none) (ds:List D) (h:iB.pre ds):bT Γ IU IV ds fun d=>d=iB.res ds:=by
 obtain⟨xs,k,rfl,aj,da,af⟩:=h
 by_cases e8:k≤0
 ·simp (maxSteps:=2000000) only[↓al,ak,↓reduceIte,reduceCtorEq,Nat.reduceEqDiff,Nat.reduceLeDiff,Nat.reduceSub,Nat.reduceAdd,Int.reduceToNat,Nat.reducePow,Int.reducePow,Int.reduceLE,Int.reduceLT,IntKind.bits,IU,IV,iB,e8,f124,q0,iv]
  refine⟨⟨xs,rfl,aj,by omega⟩,?_⟩
  rw[show k.toNat=0 by omega,Nat.pow_zero,Nat.mul_one]
 ·by_cases bR:xs=[]
  ·subst bR
   simp (maxSteps:=2000000) only[↓al,ak,↓reduceIte,reduceCtorEq,Nat.reduceEqDiff,Nat.reduceLeDiff,Nat.reduceSub,Nat.reduceAdd,Int.reduceToNat,Nat.reducePow,Int.reducePow,Int.reduceLE,Int.reduceLT,IntKind.bits,IU,IV,iB,e8,f124,q0,iv,List.length_nil,Int.natCast_zero]
   exact⟨⟨[],rfl,aj,by simp⟩,by simp[val]⟩
  ·have cN:((xs.length:Int)==0)=false:=beq_false_of_ne (by have:=List.length_pos_iff.2 bR;omega)
   have d1:k.tdiv 24=k / 24:=Int.tdiv_eq_ediv_of_nonneg (by omega)
   have d2:k.tmod 24=k % 24:=Int.tmod_eq_emod_of_nonneg (by omega)
   have d3:(k % 24).toNat≤64:=by omega
   obtain⟨q,a7,ud⟩:=Yx (k:=k) (by omega)
   have pG:=XA (k:=k) (by omega)
   obtain⟨p,a1⟩:∃p:Nat,p=2^(k % 24).toNat:=⟨_,rfl⟩
   have d4:(1:Int)*2^(k % 24).toNat=(p:Int):=by rw[a1,Int.one_mul,Int.natCast_pow];rfl
   rw[←a1]at a7 pG
   have fF:0<p:=by rw[a1];exact Nat.two_pow_pos _
   have kH:p≤8388608:=by
    have:p*2≤p*q:=Nat.mul_le_mul_left _ ud
    omega
   obtain⟨Q,cK⟩:∃Q:Nat,Q=(k / 24).toNat:=⟨_,rfl⟩
   have d5:k / 24=(Q:Int):=by omega
   rw[←cK]at pG
   simp (maxSteps:=2000000) only[↓al,ak,↓reduceIte,reduceCtorEq,Nat.reduceEqDiff,Nat.reduceLeDiff,Nat.reduceSub,Nat.reduceAdd,Int.reduceToNat,Nat.reducePow,Int.reducePow,Int.reduceLE,Int.reduceLT,IntKind.bits,IU,IV,iB,e8,cN,f124,q0,iv,d1,d2,d3,d4,d5]
   repeat (refine And.intro (by first|omega|(simp only[aO];omega)|(simp only[aO]at*;omega)|(simp only[List.length_append,List.length_cons,List.length_nil,List.length_set,b4];omega)) ?_)
   refine bZ (fun s=>∃(out:List Int) (c:Nat),s.ag 5= .own 21 0 out.length∧s.az 21=some ⟨false,false,.ints .i64 out⟩∧s.ag 7= .d (.int .i64 c)∧c<16777216∧
    ca out∧out.length=Q+xs.length∧val out+16777216^(Q+xs.length)*c=16777216^Q*(p*val xs)) ?_ ?_
   ·simp (maxSteps:=2000000) only[↓al,ak,↓reduceIte,reduceCtorEq,Nat.reduceEqDiff,Nat.reduceLeDiff,Nat.reduceSub,Nat.reduceAdd,Int.reduceToNat,Nat.reducePow,Int.reducePow,Int.reduceLE,Int.reduceLT,IntKind.bits,cN,d1,d2]
    refine fp (fun s=>∃(out:List Int) (c i:Nat),s.ag 0= .d (.ints .i64 xs)∧s.ag 5= .own 21 0 out.length∧s.az 21=some ⟨false,false,.ints .i64 out⟩∧s.ag 6= .d (.int .i64 p)∧s.ag 7= .d (.int .i64 c)∧s.ag 8= .d (.int .i64 i)∧c<16777216∧
     ca out∧i≤xs.length∧out.length=Q+i∧val out+16777216^(Q+i)*c=16777216^Q*(p*val (xs.take i)))
     (fun s=>match s.ag 8 with| .d (.int _ n)=>xs.length - n.toNat|_=>0) ?_ ?_
    ·refine⟨List.replicate Q 0,0,0,?_⟩
     simp (maxSteps:=2000000) only[↓al,ak,↓reduceIte,reduceCtorEq,Nat.reduceEqDiff,Nat.reduceLeDiff,Nat.reduceSub,Nat.reduceAdd,Int.reduceToNat,Nat.reducePow,Int.reducePow,Int.reduceLE,Int.reduceLT,IntKind.bits,Int.toNat_natCast,List.length_replicate]
     repeat (refine And.intro (by first|omega|(simp only[aO];omega)|(simp only[aO]at*;omega)|(simp only[List.length_append,List.length_cons,List.length_nil,List.length_set,b4];omega)) ?_)
     refine⟨fun x aj=> ?_,?_⟩
     rotate_left
     repeat (refine And.intro (by first|omega|(simp only[aO];omega)|(simp only[aO]at*;omega)|(simp only[List.length_append,List.length_cons,List.length_nil,List.length_set,b4];omega)) ?_)
     ·rw[CO];simp[val]
     rw[List.eq_of_mem_replicate aj];decide
    ·rintro s ⟨out,c,i,h0,aF,yf,aN,aM,aY,au,aJ,hi,hlen,aC⟩
     by_cases ci:(i:Int)<xs.length
     ·have rz:=aj.getD i
      have a4:i<xs.length:=by omega
      have x0:xs.getD i 0*(p:Int)=(((xs.getD i 0).toNat*p:Nat):Int):=by rw[Int.natCast_mul,Int.toNat_of_nonneg rz.1]
      have ye:(xs.getD i 0).toNat*p≤16777215*8388608:=Nat.mul_le_mul (by omega) kH
      simp (maxSteps:=2000000) only[↓al,ak,↓reduceIte,reduceCtorEq,Nat.reduceEqDiff,Nat.reduceLeDiff,Nat.reduceSub,Nat.reduceAdd,Int.reduceToNat,Nat.reducePow,Int.reducePow,Int.reduceLE,Int.reduceLT,IntKind.bits,h0,aF,yf,aN,aM,aY,ci,a4,x0]
      generalize oL:((((xs.getD i 0).toNat*p:Nat):Int)+(c:Int))=S
      have fj:=ZG (out:=out) (c:=c) (p:=p) (x:=(xs.getD i 0).toNat) (s:=S) (by omega) hlen aC
      have E2:0≤S:=by omega
      have bc:S.tdiv 16777216=S / 16777216:=Int.tdiv_eq_ediv_of_nonneg E2
      have c8:S.tmod 16777216=S % 16777216:=Int.tmod_eq_emod_of_nonneg E2
      rw[bc,c8]at fj
      simp only[bc,c8]
      repeat (refine And.intro (by first|omega|(simp only[aO];omega)|(simp only[aO]at*;omega)|(simp only[List.length_append,List.length_cons,List.length_nil,List.length_set,b4];omega)) ?_)
      refine⟨⟨out++[S % 16777216],(S / 16777216).toNat,i+1,?_⟩,by omega⟩
      simp only[List.length_append,List.length_cons,List.length_nil,Nat.zero_add]
      refine⟨by first|rfl|trivial,by first|rfl|trivial,?_,?_,by omega,aJ.snoc (by omega) (by omega),by omega,by omega,?_⟩
      ·congr 3;omega
      ·congr 3
      ·rw[CC a4,←Nat.add_assoc];exact fj
     ·simp (maxSteps:=2000000) only[↓al,ak,↓reduceIte,reduceCtorEq,Nat.reduceEqDiff,Nat.reduceLeDiff,Nat.reduceSub,Nat.reduceAdd,Int.reduceToNat,Nat.reducePow,Int.reducePow,Int.reduceLE,Int.reduceLT,IntKind.bits,h0,aF,yf,aN,aM,aY,ci]
      have:i=xs.length:=by omega
      subst this
      rw[List.take_length]at aC
      exact⟨out,c,rfl,rfl,rfl,au,aJ,hlen,aC⟩
   ·rintro s ⟨out,c,aF,yf,aM,au,aJ,hlen,aC⟩
    simp (maxSteps:=2000000) only[↓al,ak,↓reduceIte,reduceCtorEq,Nat.reduceEqDiff,Nat.reduceLeDiff,Nat.reduceSub,Nat.reduceAdd,Int.reduceToNat,Nat.reducePow,Int.reducePow,Int.reduceLE,Int.reduceLT,IntKind.bits,aF,yf,aM,f124,q0,iv]
    repeat (refine And.intro (by first|omega|(simp only[aO];omega)|(simp only[aO]at*;omega)|(simp only[List.length_append,List.length_cons,List.length_nil,List.length_set,b4];omega)) ?_)
    rw[List.take_length]
    refine⟨⟨_,rfl,aJ.snoc (by omega) (by omega),by simp only[List.length_append,List.length_cons,List.length_nil];omega⟩,?_⟩
    rw[yW,hlen,Int.toNat_natCast,aC,←pG,←Nat.mul_assoc,Nat.mul_comm]
def jn:bC where
 pre:=fun ds=>∃(xs:List Int) (k:Int),ds=[.ints .i64 xs,.int .i64 k]∧ca xs∧xs.length≤20000∧k≤2000000
 res:=fun ds=>match ds with
  |[.ints _ xs,.int _ k]=>aZ (val xs / 2^k.toNat)
  |_=> .nilp
theorem E3 (Γ:Env) (f124:Γ.fn 124=some iv) (q0:Γ.mt 124=none) (f125:Γ.fn 125=some px) (DQ:Γ.mt 125=none) (ds:List D) (h:jn.pre ds):bT Γ Ns Nt ds fun d=>d=jn.res ds:=by
 obtain⟨xs,k,rfl,aj,da,af⟩:=h
 by_cases e8:k≤0
 ·simp (maxSteps:=2000000) only[↓al,ak,↓reduceIte,reduceCtorEq,Nat.reduceEqDiff,Nat.reduceLeDiff,Nat.reduceSub,Nat.reduceAdd,Int.reduceToNat,Nat.reducePow,Int.reducePow,Int.reduceLE,Int.reduceLT,IntKind.bits,Ns,Nt,jn,e8,f124,q0,iv]
  refine⟨⟨xs,rfl,aj,by omega⟩,?_⟩
  rw[show k.toNat=0 by omega,Nat.pow_zero,Nat.div_one]
 ·have d1:k.tdiv 24=k / 24:=Int.tdiv_eq_ediv_of_nonneg (by omega)
  have d2:k.tmod 24=k % 24:=Int.tmod_eq_emod_of_nonneg (by omega)
  have d3:(k % 24).toNat≤64:=by omega
  obtain⟨q,a7,ud⟩:=Yx (k:=k) (by omega)
  have pG:=XA (k:=k) (by omega)
  obtain⟨p,a1⟩:∃p:Nat,p=2^(k % 24).toNat:=⟨_,rfl⟩
  have d4:(1:Int)*2^(k % 24).toNat=(p:Int):=by rw[a1,Int.one_mul,Int.natCast_pow];rfl
  rw[←a1]at a7 pG
  have fF:0<p:=by rw[a1];exact Nat.two_pow_pos _
  have kH:p≤8388608:=by
   have:p*2≤p*q:=Nat.mul_le_mul_left _ ud
   omega
  obtain⟨Q,cK⟩:∃Q:Nat,Q=(k / 24).toNat:=⟨_,rfl⟩
  have d5:k / 24=(Q:Int):=by omega
  rw[←cK]at pG
  simp (maxSteps:=2000000) only[↓al,ak,↓reduceIte,reduceCtorEq,Nat.reduceEqDiff,Nat.reduceLeDiff,Nat.reduceSub,Nat.reduceAdd,Int.reduceToNat,Nat.reducePow,Int.reducePow,Int.reduceLE,Int.reduceLT,IntKind.bits,Ns,Nt,jn,e8,f124,q0,iv,d1,d2,d3,d4,d5]
  repeat (refine And.intro (by first|omega|(simp only[aO];omega)|(simp only[aO]at*;omega)|(simp only[List.length_append,List.length_cons,List.length_nil,List.length_set,b4];omega)) ?_)
  refine bZ (fun s=>∃out:List Int,s.ag 7= .own 7 0 out.length∧s.az 7=some ⟨false,false,.ints .i64 out⟩∧ca out∧out.length≤20000∧val out=val (xs.drop Q) / p) ?_ ?_
  ·simp (maxSteps:=2000000) only[↓al,ak,↓reduceIte,reduceCtorEq,Nat.reduceEqDiff,Nat.reduceLeDiff,Nat.reduceSub,Nat.reduceAdd,Int.reduceToNat,Nat.reducePow,Int.reducePow,Int.reduceLE,Int.reduceLT,IntKind.bits]
   refine fp (fun s=>∃out:List Int,s.ag 0= .d (.ints .i64 xs)∧s.ag 6= .d (.int .i64 p)∧s.ag 7= .own 7 0 out.length∧s.az 7=some ⟨false,false,.ints .i64 out⟩∧s.ag 8= .d (.int .i64 (Q+out.length:Nat))∧
    ca out∧(out.length=0∨Q+out.length≤xs.length)∧val out+16777216^out.length*(val (xs.drop (Q+out.length)) / p)=val (xs.drop Q) / p)
    (fun s=>match s.ag 8 with| .d (.int _ n)=>xs.length - n.toNat|_=>0) ?_ ?_
   ·refine⟨[],?_⟩
    simp (maxSteps:=2000000) only[↓al,ak,↓reduceIte,reduceCtorEq,Nat.reduceEqDiff,Nat.reduceLeDiff,Nat.reduceSub,Nat.reduceAdd,Int.reduceToNat,Nat.reducePow,Int.reducePow,Int.reduceLE,Int.reduceLT,IntKind.bits,List.length_nil,Nat.add_zero]
    refine⟨?_,?_⟩
    ·intro x aj;cases aj
    ·repeat (refine And.intro (by first|omega|(simp only[aO];omega)|(simp only[aO]at*;omega)|(simp only[List.length_append,List.length_cons,List.length_nil,List.length_set,b4];omega)) ?_)
     simp[val]
   ·rintro s ⟨out,h0,aN,aM,bb,aY,aJ,hlen,aC⟩
    by_cases ci:((Q+out.length:Nat):Int)<xs.length
    ·have rz:=aj.getD (Q+out.length)
     have I4:=aj.getD (Q+out.length+1)
     have a4:Q+out.length<xs.length:=by omega
     obtain⟨x,jv⟩:∃x:Nat,xs.getD (Q+out.length) 0=(x:Int):=⟨_,(Int.toNat_of_nonneg rz.1).symm⟩
     obtain⟨y,iV⟩:∃y:Nat,xs.getD (Q+out.length+1) 0=(y:Int):=⟨_,(Int.toNat_of_nonneg I4.1).symm⟩
     have bc:¬((p:Int)=0):=by omega
     have c8:(x:Int).tdiv p=((x / p:Nat):Int):=Int.ofNat_tdiv x p
     have cW:(y:Int).tmod p=((y % p:Nat):Int):=Int.ofNat_tmod y p
     have eg:(16777216:Int).tdiv p=(q:Int):=by
      have:(16777216:Int)=((16777216:Nat):Int):=rfl
      rw[this,←a7,←Int.ofNat_tdiv,Nat.mul_div_cancel_left _ fF]
     have fA:((Q+out.length:Nat):Int)+1=((Q+out.length+1:Nat):Int):=by omega
     have JH:((y % p:Nat):Int)*(q:Int)=((y % p*q:Nat):Int):=by rw[Int.natCast_mul]
     have pV:((x / p:Nat):Int)+((y % p*q:Nat):Int)=((x / p+y % p*q:Nat):Int):=by rw[Int.natCast_add]
     have ye:=ZF fF a7 (x:=x) (by omega) y
     have fj:=ZE fF a7 x (val (xs.drop (Q+out.length+1)))
     rw[Xz a7,iV,Int.toNat_natCast]at fj
     rw[r5 xs (Q+out.length),jv,Int.toNat_natCast,fj]at aC
     have B7:q≤16777216:=by
      have:1*q≤p*q:=Nat.mul_le_mul_right _ fF
      omega
     have hle:x / p≤x:=Nat.div_le_self _ _
     simp (maxSteps:=2000000) only[↓al,ak,↓reduceIte,reduceCtorEq,Nat.reduceEqDiff,Nat.reduceLeDiff,Nat.reduceSub,Nat.reduceAdd,Int.reduceToNat,Nat.reducePow,Int.reducePow,Int.reduceLE,Int.reduceLT,IntKind.bits,h0,aN,aM,bb,aY,ci,a4,jv,bc,c8,cW,eg,f125,DQ,px,fA,Int.toNat_natCast,iV,JH,pV]
     generalize x / p=U at*
     generalize y % p*q=W at*
     repeat (refine And.intro (by first|omega|(simp only[aO];omega)|(simp only[aO]at*;omega)|(simp only[List.length_append,List.length_cons,List.length_nil,List.length_set,b4];omega)) ?_)
     refine⟨⟨xs,Q+out.length+1,rfl⟩,?_⟩
     repeat (refine And.intro (by first|omega|(simp only[aO];omega)|(simp only[aO]at*;omega)|(simp only[List.length_append,List.length_cons,List.length_nil,List.length_set,b4];omega)) ?_)
     refine⟨⟨out++[((U+W:Nat):Int)],rfl,rfl,?_,?_⟩,by omega⟩
     ·simp only[List.length_append,List.length_cons,List.length_nil];omega
     ·refine⟨aJ.snoc (by omega) (by omega),.inr (by simp only[List.length_append,List.length_cons,List.length_nil];omega),?_⟩
      rw[yW,Int.toNat_natCast,List.length_append,List.length_singleton,←aC,Nat.pow_succ,←Nat.add_assoc Q,Nat.mul_assoc,Nat.add_assoc,←Nat.mul_add]
    ·simp (maxSteps:=2000000) only[↓al,ak,↓reduceIte,reduceCtorEq,Nat.reduceEqDiff,Nat.reduceLeDiff,Nat.reduceSub,Nat.reduceAdd,Int.reduceToNat,Nat.reducePow,Int.reducePow,Int.reduceLE,Int.reduceLT,IntKind.bits,h0,aN,aM,bb,aY,ci]
     refine⟨out,rfl,rfl,aJ,by omega,?_⟩
     rw[←aC,List.drop_of_length_le (by omega)]
     simp[val]
  ·rintro s ⟨out,aM,bb,aJ,hlen,aC⟩
   simp (maxSteps:=2000000) only[↓al,ak,↓reduceIte,reduceCtorEq,Nat.reduceEqDiff,Nat.reduceLeDiff,Nat.reduceSub,Nat.reduceAdd,Int.reduceToNat,Nat.reducePow,Int.reducePow,Int.reduceLE,Int.reduceLT,IntKind.bits,aM,bb,f124,q0,iv]
   rw[List.take_length]
   refine⟨⟨_,rfl,aJ,by omega⟩,?_⟩
   rw[aC,J9 aj,Nat.div_div_eq_div_mul,pG]
def aI (x:a6):D:= .agg [.bool x.neg,aZ x.m,.int .i64 x.e]
def eA:D→a6
 | .agg [.bool a,.ints _ xs,.int _ e]=>⟨a,val xs,e⟩
 |_=>⟨false,0,0⟩
theorem cd (x:a6):eA (.agg [.bool x.neg,.ints .i64 (ao x.m),.int .i64 x.e])=x:=by
 simp only[eA,b5]
theorem kz (x:a6):eA (aI x)=x:=cd x
def bO (x:a6):Prop:=x.win (-50000) 50000
theorem fo (n:Nat):(ao n).length≤bp n / 24+1:=by
 refine yT (Nat.lt_of_lt_of_le (k4 n) ?_)
 rw[zb]
 exact Nat.pow_le_pow_right (by decide) (by omega)
theorem jc {x:a6} (h:bO x):bp x.m≤100000:=by
 by_cases h0:x.m=0
 ·rw[h0,eE];omega
 ·have:=h.2 h0;omega
theorem hn {x:a6} (h:bO x):(ao x.m).length≤4200:=by
 have:=jc h
 have:=fo x.m
 omega
theorem kK {x:a6} (h:bO x): -50000≤x.e∧x.e≤50000:=by
 by_cases h0:x.m=0
 ·have:=(h.1.1 h0).2;omega
 ·have:=h.2 h0;omega
theorem N4 {n:Nat} (h:n=0):((ao n).length:Int)=0:=by rw[h,hk];rfl
theorem z0 {n:Nat} (h:n≠0):(((ao n).length:Int)==0)=false:=beq_false_of_ne (by have:=xG h;omega)
theorem I5 {n:Nat} (h:n=0):(((ao n).length:Int)==0)=true:=by rw[N4 h];rfl
def qu:bC where
 pre:=fun ds=>∃x:a6,ds=[aI x]
 res:=fun ds=>match ds with
  |[p]=> .int .i64 (ia (eA p))
  |_=> .nilp
theorem I6 (Γ:Env) (ds:List D) (h:qu.pre ds):bT Γ IJ IK ds fun d=>d=qu.res ds:=by
 obtain⟨x,rfl⟩:=h
 by_cases h0:x.m=0
 ·have aj:ia x=0:=by unfold ia;rw[if_pos h0]
  simp (maxSteps:=2000000) only[↓al,ak,↓reduceIte,reduceCtorEq,Nat.reduceEqDiff,Nat.reduceLeDiff,Nat.reduceSub,Nat.reduceAdd,Int.reduceToNat,Nat.reducePow,Int.reducePow,Int.reduceLE,Int.reduceLT,IntKind.bits,IJ,IK,qu,aI,cd,I5 h0,aj]
 ·cases aQ:x.neg with
  |true=>
   have aj:ia x= -1:=by unfold ia;rw[if_neg h0,aQ];rfl
   have hy:=cd x
   rw[aQ]at hy
   simp (maxSteps:=2000000) only[↓al,ak,↓reduceIte,reduceCtorEq,Nat.reduceEqDiff,Nat.reduceLeDiff,Nat.reduceSub,Nat.reduceAdd,Int.reduceToNat,Nat.reducePow,Int.reducePow,Int.reduceLE,Int.reduceLT,IntKind.bits,IJ,IK,qu,aI,aQ,hy,z0 h0,aj]
  |false=>
   have aj:ia x=1:=by unfold ia;rw[if_neg h0,aQ];rfl
   have hy:=cd x
   rw[aQ]at hy
   simp (maxSteps:=2000000) only[↓al,ak,↓reduceIte,reduceCtorEq,Nat.reduceEqDiff,Nat.reduceLeDiff,Nat.reduceSub,Nat.reduceAdd,Int.reduceToNat,Nat.reducePow,Int.reducePow,Int.reduceLE,Int.reduceLT,IntKind.bits,IJ,IK,qu,aI,aQ,hy,z0 h0,aj]
def gM:bC where
 pre:=fun ds=>∃x:a6,ds=[aI x]
 res:=fun ds=>match ds with
  |[p]=>aI (dx (eA p))
  |_=> .nilp
theorem E4 (Γ:Env) (ds:List D) (h:gM.pre ds):bT Γ IB IC ds fun d=>d=gM.res ds:=by
 obtain⟨x,rfl⟩:=h
 have hy:=cd x
 cases aQ:x.neg with
 |true=>
  rw[aQ]at hy
  simp (maxSteps:=2000000) only[↓al,ak,↓reduceIte,reduceCtorEq,Nat.reduceEqDiff,Nat.reduceLeDiff,Nat.reduceSub,Nat.reduceAdd,Int.reduceToNat,Nat.reducePow,Int.reducePow,Int.reduceLE,Int.reduceLT,IntKind.bits,IB,IC,gM,aI,aQ,hy,dx]
 |false=>
  rw[aQ]at hy
  by_cases h0:x.m=0
  ·have c:¬((ao x.m).length:Int)>0:=by rw[N4 h0];omega
   simp (maxSteps:=2000000) only[↓al,ak,↓reduceIte,reduceCtorEq,Nat.reduceEqDiff,Nat.reduceLeDiff,Nat.reduceSub,Nat.reduceAdd,Int.reduceToNat,Nat.reducePow,Int.reducePow,Int.reduceLE,Int.reduceLT,IntKind.bits,IB,IC,gM,aI,aQ,hy,dx,c]
   simp[h0]
  ·have c:((ao x.m).length:Int)>0:=by have:=xG h0;omega
   simp (maxSteps:=2000000) only[↓al,ak,↓reduceIte,reduceCtorEq,Nat.reduceEqDiff,Nat.reduceLeDiff,Nat.reduceSub,Nat.reduceAdd,Int.reduceToNat,Nat.reducePow,Int.reducePow,Int.reduceLE,Int.reduceLT,IntKind.bits,IB,IC,gM,aI,aQ,hy,dx,c]
   simp[h0]
def dT:bC where
 pre:=fun ds=>∃(b:Bool) (m:Nat) (e:Int),ds=[.bool b,aZ m,.int .i64 e]∧(ao m).length≤20000∧-1000000≤e∧e≤1000000
 res:=fun ds=>match ds with
  |[.bool b,.ints _ xs,.int _ e]=>aI (mk b (val xs) e)
  |_=> .nilp
theorem E5 (Γ:Env) (f88:Γ.fn 88=some jn) (Vh:Γ.mt 88=none) (ds:List D) (h:dT.pre ds):bT Γ Nl Nm ds fun d=>d=dT.res ds:=by
 obtain⟨b,m,e,rfl,aJ,S6,S7⟩:=h
 by_cases h0:m=0
 ·subst h0
  have hm:mk b (val []) e=⟨false,0,0⟩:=by simp[mk,val]
  simp (maxSteps:=2000000) only[↓al,ak,↓reduceIte,reduceCtorEq,Nat.reduceEqDiff,Nat.reduceLeDiff,Nat.reduceSub,Nat.reduceAdd,Int.reduceToNat,Nat.reducePow,Int.reducePow,Int.reduceLE,Int.reduceLT,IntKind.bits,Nl,Nm,dT,aI,hk,List.length_nil,Int.natCast_zero,beq_self_eq_true,hm]
 ·have ua:=Ay m
  have aoO:b2 m<bp m:=by
   have h1:=(jB h0).1
   have h2:=(jB h0).2
   have aq:2^b2 m≤m:=by
    conv=>rhs;rw[←h1]
    exact Nat.le_mul_of_pos_left _ (Nat.pos_of_ne_zero fun h=>by rw[h]at h2;cases h2)
   have aE:=k4 m
   exact(Nat.pow_lt_pow_iff_right (by decide)).1 (Nat.lt_of_le_of_lt aq aE)
  have ug:∀k:Nat,k≤b2 m→m / 2^k≠0:=fun k af h=>by
   have aE:m<2^k:=(Nat.div_eq_zero_iff_lt (Nat.two_pow_pos k)).1 h
   have h1:=(jB h0).1
   have h2:=(jB h0).2
   have aq:2^b2 m≤m:=by
    conv=>rhs;rw[←h1]
    exact Nat.le_mul_of_pos_left _ (Nat.pos_of_ne_zero fun h=>by rw[h]at h2;cases h2)
   have:=(Nat.pow_lt_pow_iff_right (a:=2) (by decide)).1 (Nat.lt_of_le_of_lt aq aE)
   omega
  simp (maxSteps:=2000000) only[↓al,ak,↓reduceIte,reduceCtorEq,Nat.reduceEqDiff,Nat.reduceLeDiff,Nat.reduceSub,Nat.reduceAdd,Int.reduceToNat,Nat.reducePow,Int.reducePow,Int.reduceLE,Int.reduceLT,IntKind.bits,Nl,Nm,dT,z0 h0,aI,b5]
  refine bZ (fun s=>s.ag 0= .d (.bool b)∧s.ag 1= .d (.ints .i64 (ao m))∧s.ag 2= .d (.int .i64 e)∧s.ag 6= .box 6 0∧s.ag 7= .d (.int .i64 (b2 m))∧∃cs,s.az 6=some ⟨false,false,.cells cs⟩∧cs.length=3) ?_ ?_
  ·refine Pv (fun s=>∃k:Nat,s.ag 0= .d (.bool b)∧s.ag 1= .d (.ints .i64 (ao m))∧s.ag 2= .d (.int .i64 e)∧s.ag 6= .box 6 0∧s.ag 7= .d (.int .i64 k)∧k≤b2 m∧∃cs,s.az 6=some ⟨false,false,.cells cs⟩∧cs.length=3) (fun s=>match s.ag 7 with| .d (.int _ k)=>b2 m - k.toNat|_=>0) ?_ ?_
   ·refine⟨0,?_⟩
    simp (maxSteps:=2000000) only[↓al,ak,↓reduceIte,reduceCtorEq,Nat.reduceEqDiff,Nat.reduceLeDiff,Nat.reduceSub,Nat.reduceAdd,Int.reduceToNat,Nat.reducePow,Int.reducePow,Int.reduceLE,Int.reduceLT,IntKind.bits]
    exact⟨rfl,Nat.zero_le _,_,rfl,rfl⟩
   ·rintro s ⟨k,I7,h1,h2,aN,aM,af,cs,a8,fH⟩
    have eZ:=ug k af
    have a1:=xG eZ
    have bR:(0:Int)<(ao (m / 2^k)).length:=by omega
    have bh:=OV (m / 2^k) 0
    rw[Nat.pow_zero,Nat.div_one]at bh
    have ad1:((m / 2^k % 16777216:Nat):Int).tmod 2=((m / 2^k % 2:Nat):Int):=by
     rw[Int.tmod_eq_emod_of_nonneg (by omega)];omega
    by_cases hX:k=b2 m
    ·have bu:=(jB h0).2
     rw[←hX]at bu
     have cN:(((m / 2^k % 2:Nat):Int)==0)=false:=by rw[bu];rfl
     simp (maxSteps:=2000000) only[↓al,ak,↓reduceIte,reduceCtorEq,Nat.reduceEqDiff,Nat.reduceLeDiff,Nat.reduceSub,Nat.reduceAdd,Int.reduceToNat,Nat.reducePow,Int.reducePow,Int.reduceLE,Int.reduceLT,IntKind.bits,I7,h1,h2,aN,aM,a8,f88,Vh,jn,b5,Int.toNat_natCast,bR,bh,ad1,cN]
     exact⟨⟨ao m,k,rfl,c5 m,aJ,by omega⟩,by decide,by rw[hX],cs,rfl,fH⟩
    ·have bu:m / 2^k % 2=0:=by
      have h1:=(jB h0).1
      have:m / 2^k=m / 2^b2 m*2^(b2 m - k - 1)*2:=by
       refine Nat.div_eq_of_eq_mul_left (Nat.two_pow_pos k) ?_
       conv=>lhs;rw[←h1]
       rw[Nat.mul_assoc,Nat.mul_assoc,←Nat.pow_succ',←Nat.pow_add]
       congr 2;omega
      omega
     have cN:(((m / 2^k % 2:Nat):Int)==0)=true:=by rw[bu];rfl
     simp (maxSteps:=2000000) only[↓al,ak,↓reduceIte,reduceCtorEq,Nat.reduceEqDiff,Nat.reduceLeDiff,Nat.reduceSub,Nat.reduceAdd,Int.reduceToNat,Nat.reducePow,Int.reducePow,Int.reduceLE,Int.reduceLT,IntKind.bits,I7,h1,h2,aN,aM,a8,f88,Vh,jn,b5,Int.toNat_natCast,bR,bh,ad1,cN]
     refine⟨⟨ao m,k,rfl,c5 m,aJ,by omega⟩,by decide,?_⟩
     repeat (refine And.intro (by first|omega|(simp only[aO];omega)|(simp only[aO]at*;omega)|(simp only[List.length_append,List.length_cons,List.length_nil,List.length_set,b4];omega)) ?_)
     exact⟨⟨k+1,by omega,by omega,cs,rfl,fH⟩,by omega⟩
  ·rintro s ⟨I7,h1,h2,aN,aM,cs,a8,fH⟩
   match cs,fH with
   |[uD,eJ,kX],_=>
   simp (maxSteps:=2000000) only[↓al,ak,↓reduceIte,reduceCtorEq,Nat.reduceEqDiff,Nat.reduceLeDiff,Nat.reduceSub,Nat.reduceAdd,Int.reduceToNat,Nat.reducePow,Int.reducePow,Int.reduceLE,Int.reduceLT,IntKind.bits,I7,h1,h2,aN,aM,a8,f88,Vh,jn,b5,Int.toNat_natCast]
   refine⟨⟨ao m,b2 m,rfl,c5 m,aJ,by omega⟩,?_⟩
   repeat (refine And.intro (by first|omega|(simp only[aO];omega)|(simp only[aO]at*;omega)|(simp only[List.length_append,List.length_cons,List.length_nil,List.length_set,b4];omega)) ?_)
   unfold mk
   rw[if_neg h0]
theorem y1 {n:Nat} (h:bp n≤400000):(ao n).length≤20000:=by
 have:=fo n
 omega
def E6:bC where
 pre:=fun ds=>∃(x:a6) (k:Int),ds=[aI x,.int .i64 k]∧bO x∧-100000≤k∧k≤100000
 res:=fun ds=>match ds with
  |[p,.int _ k]=>aI (gU (eA p) k)
  |_=> .nilp
theorem aoP (Γ:Env) (f76:Γ.fn 76=some dT) (xa:Γ.mt 76=none) (ds:List D) (h:E6.pre ds):bT Γ UF UG ds fun d=>d=E6.res ds:=by
 obtain⟨x,k,rfl,aj,EK,BQ⟩:=h
 have he:=kK aj
 have aJ:=hn aj
 simp (maxSteps:=2000000) only[↓al,ak,↓reduceIte,reduceCtorEq,Nat.reduceEqDiff,Nat.reduceLeDiff,Nat.reduceSub,Nat.reduceAdd,Int.reduceToNat,Nat.reducePow,Int.reducePow,Int.reduceLE,Int.reduceLT,IntKind.bits,UF,UG,E6,aI,cd,gU,f76,xa,dT,b5]
 repeat (refine And.intro (by first|omega|(simp only[aO];omega)|(simp only[aO]at*;omega)|(simp only[List.length_append,List.length_cons,List.length_nil,List.length_set,b4];omega)) ?_)
 exact⟨x.neg,x.m,x.e+k,rfl,by omega,by omega,by omega⟩
def kL:bC where
 pre:=fun ds=>∃x y:a6,ds=[aI x,aI y]∧bO x∧bO y
 res:=fun ds=>match ds with
  |[p,q]=>aI (cD (eA p) (eA q))
  |_=> .nilp
theorem Ny (Γ:Env) (f76:Γ.fn 76=some dT) (xa:Γ.mt 76=none) (f94:Γ.fn 94=some ly) (aoQ:Γ.mt 94=none) (ds:List D) (h:kL.pre ds):bT Γ Ul Um ds fun d=>d=kL.res ds:=by
 obtain⟨x,y,rfl,aj,hy⟩:=h
 have ex:=kK aj
 have An:=kK hy
 have da:=hn aj
 have hK:=hn hy
 have arc:=CH x.m y.m
 have az:=jc aj
 have WH:=jc hy
 have zT:=y1 (n:=x.m*y.m) (by omega)
 simp (maxSteps:=2000000) only[↓al,ak,↓reduceIte,reduceCtorEq,Nat.reduceEqDiff,Nat.reduceLeDiff,Nat.reduceSub,Nat.reduceAdd,Int.reduceToNat,Nat.reducePow,Int.reducePow,Int.reduceLE,Int.reduceLT,IntKind.bits,Ul,Um,kL,aI,cd,cD,f76,xa,dT,f94,aoQ,ly,b5]
 refine⟨⟨_,_,rfl,c5 _,c5 _,by omega,by omega⟩,?_⟩
 repeat (refine And.intro (by first|omega|(simp only[aO];omega)|(simp only[aO]at*;omega)|(simp only[List.length_append,List.length_cons,List.length_nil,List.length_set,b4];omega)) ?_)
 exact⟨_,_,_,rfl,zT,by omega,by omega⟩
def eS:bC where
 pre:=fun ds=>∃x y:a6,ds=[aI x,aI y]∧bO x∧bO y
 res:=fun ds=>match ds with
  |[p,q]=> .bool (decide (eA p=eA q))
  |_=> .nilp
theorem Qp {x y:a6} :x=y↔x.neg=y.neg∧x.e=y.e∧ao x.m=ao y.m:=by
 constructor
 ·rintro rfl;exact⟨rfl,rfl,rfl⟩
 ·rintro⟨h1,h2,aq⟩
  have:=Pb aq
  cases x;cases y;simp_all
theorem E7 (Γ:Env) (f65:Γ.fn 65=some j2) (Vi:Γ.mt 65=none) (ds:List D) (h:eS.pre ds):bT Γ EX IA ds fun d=>d=eS.res ds:=by
 obtain⟨x,y,rfl,aj,hy⟩:=h
 have da:=hn aj
 by_cases bR:x.neg=y.neg
 ·by_cases cN:x.e=y.e
  ·have w9:(x.e==y.e)=true:=by simpa using cN
   have lz:(x.neg==y.neg)=true:=by simpa using bR
   have aL:decide (x=y)=decide (ao x.m=ao y.m):=by
    rw[decide_eq_decide,Qp];simp[bR,cN]
   simp (maxSteps:=2000000) only[↓al,ak,↓reduceIte,reduceCtorEq,Nat.reduceEqDiff,Nat.reduceLeDiff,Nat.reduceSub,Nat.reduceAdd,Int.reduceToNat,Nat.reducePow,Int.reducePow,Int.reduceLE,Int.reduceLT,IntKind.bits,EX,IA,eS,aI,cd,lz,w9,f65,Vi,j2,aL]
   exact⟨_,_,rfl,by omega⟩
  ·have w9:(x.e==y.e)=false:=beq_false_of_ne cN
   have lz:(x.neg==y.neg)=true:=by simpa using bR
   have aL:decide (x=y)=false:=by rw[decide_eq_false_iff_not,Qp];simp[cN]
   simp (maxSteps:=2000000) only[↓al,ak,↓reduceIte,reduceCtorEq,Nat.reduceEqDiff,Nat.reduceLeDiff,Nat.reduceSub,Nat.reduceAdd,Int.reduceToNat,Nat.reducePow,Int.reducePow,Int.reduceLE,Int.reduceLT,IntKind.bits,EX,IA,eS,aI,cd,lz,w9,f65,Vi,j2,aL]
 ·have lz:(x.neg==y.neg)=false:=by simpa using bR
  have aL:decide (x=y)=false:=by rw[decide_eq_false_iff_not,Qp];simp[bR]
  simp (maxSteps:=2000000) only[↓al,ak,↓reduceIte,reduceCtorEq,Nat.reduceEqDiff,Nat.reduceLeDiff,Nat.reduceSub,Nat.reduceAdd,Int.reduceToNat,Nat.reducePow,Int.reducePow,Int.reduceLE,Int.reduceLT,IntKind.bits,EX,IA,eS,aI,cd,lz,f65,Vi,j2,aL]
def fK:bC where
 pre:=fun ds=>∃n:Int,ds=[.int .i64 n]∧-9223372036854775807≤n∧n≤9223372036854775807
 res:=fun ds=>match ds with
  |[.int _ n]=>aI (mk (decide (n<0)) n.natAbs 0)
  |_=> .nilp
theorem E8 (Γ:Env) (f76:Γ.fn 76=some dT) (xa:Γ.mt 76=none) (f90:Γ.fn 90=some uf) (afV:Γ.mt 90=none) (ds:List D) (h:fK.pre ds):bT Γ Nb Nc ds fun d=>d=fK.res ds:=by
 obtain⟨n,rfl,h1,h2⟩:=h
 have aJ:=yT (n:=n.natAbs) (k:=3) (by omega)
 by_cases c:n<0
 ·have a4:(0 - n).toNat=n.natAbs:=by omega
  simp (maxSteps:=2000000) only[↓al,ak,↓reduceIte,reduceCtorEq,Nat.reduceEqDiff,Nat.reduceLeDiff,Nat.reduceSub,Nat.reduceAdd,Int.reduceToNat,Nat.reducePow,Int.reducePow,Int.reduceLE,Int.reduceLT,IntKind.bits,Nb,Nc,fK,aI,f76,xa,dT,f90,afV,uf,b5,c,a4]
  refine⟨by simp only[aO];omega,?_⟩
  exact⟨⟨_,rfl,by simp only[aO];omega⟩,⟨_,_,_,rfl,by omega,by omega,by omega⟩⟩
 ·have a4:n.toNat=n.natAbs:=by omega
  simp (maxSteps:=2000000) only[↓al,ak,↓reduceIte,reduceCtorEq,Nat.reduceEqDiff,Nat.reduceLeDiff,Nat.reduceSub,Nat.reduceAdd,Int.reduceToNat,Nat.reducePow,Int.reducePow,Int.reduceLE,Int.reduceLT,IntKind.bits,Nb,Nc,fK,aI,f76,xa,dT,f90,afV,uf,b5,c,a4]
  exact⟨⟨_,rfl,by simp only[aO];omega⟩,⟨_,_,_,rfl,by omega,by omega,by omega⟩⟩
end RV.Dr
namespace RV
open Go
set_option linter.unusedVariables false
theorem wrap_small {n:Nat} (h:n<9223372036854775808):IntKind.i64.wrap (n:Int)=n:=by
 have h1:(n:Int) % 2^64=n:=by omega
 have h2:¬((n:Int)≥2^(64 - 1)):=by omega
 unfold IntKind.wrap
 simp only[show IntKind.i64.bits=64 from rfl,show IntKind.i64.signed=true from rfl,h1,h2,decide_false,Bool.and_false,Bool.false_eq_true,if_false]
theorem GQ (k:Nat) (af:k≤62) (x:Int):lb .i64 x ((2^k - 1:Nat):Int)=x % (2^k:Nat):=by
 unfold lb
 have a1:2^k≤2^62:=Nat.pow_le_pow_right (by decide) af
 rw[BitVec.toNat_and]
 have h1:(BitVec.ofInt IntKind.i64.bits ((2^k - 1:Nat):Int)).toNat=2^k - 1:=by
  rw[BitVec.ofInt_natCast,BitVec.toNat_ofNat,Nat.mod_eq_of_lt]
  show _<2^64
  omega
 rw[h1,Nat.and_two_pow_sub_one_eq_mod]
 have h2:=Nat.mod_lt (BitVec.ofInt IntKind.i64.bits x).toNat (Nat.two_pow_pos k)
 rw[wrap_small (by omega),BitVec.toNat_ofInt]
 show (((x % ((2^64:Nat):Int)).toNat % 2^k:Nat):Int)=_
 rw[Int.natCast_emod,Int.toNat_of_nonneg (by omega)]
 refine Int.emod_emod_of_dvd x ?_
 exact Int.natCast_dvd_natCast.2 (Nat.pow_dvd_pow 2 (by omega))
theorem Pf (x:Int):lb .i64 x 16777215=x % 16777216:=GQ 24 (by decide) x
theorem ZM (x:Int):lb .i64 x 1=x % 2:=GQ 1 (by decide) x
theorem ai6 (x:Int):lb .i64 x 3=x % 4:=GQ 2 (by decide) x
theorem akU {a b k c:Nat} (a9:a<2^k) (aw:b=2^k*c) (h:a+b<9223372036854775808):Ig .i64 (a:Int) (b:Int)=((a+b:Nat):Int):=by
 unfold Ig
 rw[BitVec.toNat_or,BitVec.ofInt_natCast,BitVec.ofInt_natCast,BitVec.toNat_ofNat,BitVec.toNat_ofNat,Nat.mod_eq_of_lt (by show _<2^64;omega),Nat.mod_eq_of_lt (by show _<2^64;omega)]
 have:=Nat.two_pow_add_eq_or_of_lt a9 c
 rw[←aw]at this
 rw[Nat.or_comm,←this,Nat.add_comm b a,wrap_small h]
theorem acd (x:Int):x.fdiv 16777216=x / 16777216:=Int.fdiv_eq_ediv_of_nonneg x (by decide)
end RV
namespace RV.Dr
open Go RV
set_option linter.unusedSimpArgs false
set_option linter.unusedVariables false
set_option maxRecDepth 100000
set_option maxHeartbeats 4000000
def je:hg where
 pre:=fun bg cs=>∃s c:Int,bg=[.box b0 0,.d (.int .i64 s)]∧cs=[.cells [.d (.int .i64 c)]]∧-2305843009213693952≤s∧s≤2305843009213693952∧-2305843009213693952≤c∧c≤2305843009213693952
 res:=fun bg cs=>match bg,cs with
  |[_,.d (.int _ s)],[.cells [.d (.int _ c)]]=> .int .i64 ((s+c) % 16777216)
  |_,_=> .nilp
 out:=fun bg cs=>match bg,cs with
  |[_,.d (.int _ s)],[.cells [.d (.int _ c)]]=>[.cells [.d (.int .i64 ((s+c) / 16777216))]]
  |_,_=>[]
theorem DR (Γ:Env) (bg:List ai) (cs:List BC) (h:je.pre bg cs):vk Γ RJ RK bg cs fun d cs'=>d=je.res bg cs∧cs'=je.out bg cs:=by
 obtain⟨s,c,rfl,rfl,h1,h2,aq,aE⟩:=h
 simp (maxSteps:=2000000) only[↓al,ak,↓reduceIte,reduceCtorEq,Nat.reduceEqDiff,Nat.reduceLeDiff,Nat.reduceSub,Nat.reduceAdd,Int.reduceToNat,Nat.reducePow,Int.reducePow,Int.reduceLE,Int.reduceLT,IntKind.bits,RJ,RK,je,Pf,acd]
 simp only[aO];omega
def tJ:hg where
 pre:=fun bg cs=>∃x y c:Int,bg=[.d (.int .i64 x),.d (.int .i64 y),.box b0 0]∧cs=[.cells [.dr 118 [.box (b0+1) 0] []],.cells [.d (.int .i64 c)]]∧0≤x∧x<16777216∧0≤y∧y<16777216∧0≤c∧c≤16777216
 res:=fun bg cs=>match bg,cs with
  |[.d (.int _ x),.d (.int _ y),_],[_,.cells [.d (.int _ c)]]=> .int .i64 ((x+y+c) % 16777216)
  |_,_=> .nilp
 out:=fun bg cs=>match bg,cs with
  |[.d (.int _ x),.d (.int _ y),_],[p,.cells [.d (.int _ c)]]=>[p,.cells [.d (.int .i64 ((x+y+c) / 16777216))]]
  |_,_=>[]
theorem DS (Γ:Env) (vq:Γ.mt 118=some je) (bg:List ai) (cs:List BC) (h:tJ.pre bg cs):vk Γ RL RM bg cs fun d cs'=>d=tJ.res bg cs∧cs'=tJ.out bg cs:=by
 obtain⟨x,y,c,rfl,rfl,h1,h2,aq,aE,aF,aN⟩:=h
 simp (maxSteps:=2000000) only[↓al,ak,↓reduceIte,reduceCtorEq,Nat.reduceEqDiff,Nat.reduceLeDiff,Nat.reduceSub,Nat.reduceAdd,Int.reduceToNat,Nat.reducePow,Int.reducePow,Int.reduceLE,Int.reduceLT,IntKind.bits,b0,Nat.reduceBneDiff,Nat.reduceBeqDiff,Nat.reduceLT,List.flatMap_cons,List.flatMap_nil,List.append_nil,List.nil_append,List.cons_append,List.filter_cons,List.filter_nil,List.contains_cons,List.contains_nil,bne_self_eq_false,beq_self_eq_true,List.map_cons,List.map_nil,RL,RM,tJ,vq,je]
 repeat (refine And.intro (by first|omega|(simp only[aO];omega)|(simp only[aO]at*;omega)|(simp only[List.length_append,List.length_cons,List.length_nil,List.length_set,b4];omega)) ?_)
 exact⟨_,_,rfl,rfl,by omega⟩
def tK:hg where
 pre:=fun bg cs=>∃x y c:Int,bg=[.d (.int .i64 x),.d (.int .i64 y),.box b0 0]∧cs=[.cells [.d (.int .i64 c)]]∧0≤x∧x<16777216∧0≤y∧y<16777216∧-16777216≤c∧c≤0
 res:=fun bg cs=>match bg,cs with
  |[.d (.int _ x),.d (.int _ y),_],[.cells [.d (.int _ c)]]=> .int .i64 ((x - y+c) % 16777216)
  |_,_=> .nilp
 out:=fun bg cs=>match bg,cs with
  |[.d (.int _ x),.d (.int _ y),_],[.cells [.d (.int _ c)]]=>[.cells [.d (.int .i64 ((x - y+c) / 16777216))]]
  |_,_=>[]
theorem DT (Γ:Env) (vq:Γ.mt 118=some je) (bg:List ai) (cs:List BC) (h:tK.pre bg cs):vk Γ R1 R2 bg cs fun d cs'=>d=tK.res bg cs∧cs'=tK.out bg cs:=by
 obtain⟨x,y,c,rfl,rfl,h1,h2,aq,aE,aF,aN⟩:=h
 simp (maxSteps:=2000000) only[↓al,ak,↓reduceIte,reduceCtorEq,Nat.reduceEqDiff,Nat.reduceLeDiff,Nat.reduceSub,Nat.reduceAdd,Int.reduceToNat,Nat.reducePow,Int.reducePow,Int.reduceLE,Int.reduceLT,IntKind.bits,b0,Nat.reduceBneDiff,Nat.reduceBeqDiff,Nat.reduceLT,List.flatMap_cons,List.flatMap_nil,List.append_nil,List.nil_append,List.cons_append,List.filter_cons,List.filter_nil,List.contains_cons,List.contains_nil,bne_self_eq_false,beq_self_eq_true,List.map_cons,List.map_nil,R1,R2,tK,vq,je]
 repeat (refine And.intro (by first|omega|(simp only[aO];omega)|(simp only[aO]at*;omega)|(simp only[List.length_append,List.length_cons,List.length_nil,List.length_set,b4];omega)) ?_)
 exact⟨_,_,rfl,rfl,by omega⟩
def jV:bC where
 pre:=fun ds=>∃xs:List Int,ds=[.ints .i64 xs]∧ca xs∧xs.length≤100000
 res:=fun ds=>match ds with
  |[.ints _ xs]=>aZ (val xs)
  |_=> .nilp
theorem DU (Γ:Env) (ds:List D) (h:jV.pre ds):bT Γ RH RI ds fun d=>d=jV.res ds:=by
 obtain⟨xs,rfl,aj,hlen⟩:=h
 simp (maxSteps:=2000000) only[↓al,ak,↓reduceIte,reduceCtorEq,Nat.reduceEqDiff,Nat.reduceLeDiff,Nat.reduceSub,Nat.reduceAdd,Int.reduceToNat,Nat.reducePow,Int.reducePow,Int.reduceLE,Int.reduceLT,IntKind.bits,RH,RI,jV]
 refine bZ (fun s=>s.ag 0= .d (aZ (val xs))) ?_ ?_
 ·refine Pv (fun s=>∃n:Nat,n≤xs.length∧s.ag 0= .d (.ints .i64 (xs.take n))∧val (xs.take n)=val xs) (fun s=>match s.ag 0 with| .d (.ints _ n)=>n.length|_=>0) ?_ ?_
  ·refine⟨xs.length,Nat.le_refl _,?_⟩
   simp (maxSteps:=2000000) only[↓al,ak,↓reduceIte,reduceCtorEq,Nat.reduceEqDiff,Nat.reduceLeDiff,Nat.reduceSub,Nat.reduceAdd,Int.reduceToNat,Nat.reducePow,Int.reducePow,Int.reduceLE,Int.reduceLT,IntKind.bits,List.take_length]
  ·rintro s ⟨n,aQ,h0,aC⟩
   have Vj:(xs.take n).length=n:=by rw[List.length_take,Nat.min_eq_left aQ]
   have I7:s.ag 0= .d (.ints .i64 (xs.take n)):=h0
   by_cases e8:(n:Int)>0
   ·have a4:((n:Int) - 1).toNat=n - 1:=by omega
    have bc:n - 1<n:=by omega
    have c8:n - 1<xs.length:=by omega
    have cW:(xs.take n).getD (n - 1) 0=xs.getD (n - 1) 0:=by
     rw[List.getD_eq_getElem?_getD,List.getElem?_take_of_lt (by omega),←List.getD_eq_getElem?_getD]
    by_cases bR:xs.getD (n - 1) 0=0
    ·simp (maxSteps:=2000000) only[↓al,ak,↓reduceIte,reduceCtorEq,Nat.reduceEqDiff,Nat.reduceLeDiff,Nat.reduceSub,Nat.reduceAdd,Int.reduceToNat,Nat.reducePow,Int.reducePow,Int.reduceLE,Int.reduceLT,IntKind.bits,h0,Vj,e8,a4,bc,cW,bR,beq_self_eq_true]
     repeat (refine And.intro (by first|omega|(simp only[aO];omega)|(simp only[aO]at*;omega)|(simp only[List.length_append,List.length_cons,List.length_nil,List.length_set,b4];omega)) ?_)
     refine⟨⟨n - 1,by omega,?_,?_⟩,?_⟩
     ·rw[List.take_take,Nat.min_eq_left (by omega)]
     ·rw[←aC,←W7 c8 bR,show n - 1+1=n by omega]
     ·rw[List.take_take,Nat.min_eq_left (by omega),List.length_take];omega
    ·have cN:(xs.getD (n - 1) 0==0)=false:=beq_false_of_ne bR
     simp (maxSteps:=2000000) only[↓al,ak,↓reduceIte,reduceCtorEq,Nat.reduceEqDiff,Nat.reduceLeDiff,Nat.reduceSub,Nat.reduceAdd,Int.reduceToNat,Nat.reducePow,Int.reducePow,Int.reduceLE,Int.reduceLT,IntKind.bits,h0,Vj,e8,a4,bc,cW,cN]
     repeat (refine And.intro (by first|omega|(simp only[aO];omega)|(simp only[aO]at*;omega)|(simp only[List.length_append,List.length_cons,List.length_nil,List.length_set,b4];omega)) ?_)
     rw[Kq aj aC (.inr ⟨aQ,bR⟩)]
   ·simp (maxSteps:=2000000) only[↓al,ak,↓reduceIte,reduceCtorEq,Nat.reduceEqDiff,Nat.reduceLeDiff,Nat.reduceSub,Nat.reduceAdd,Int.reduceToNat,Nat.reducePow,Int.reducePow,Int.reduceLE,Int.reduceLT,IntKind.bits,h0,Vj,e8]
    rw[Kq aj aC (.inl (by omega))]
 ·rintro s h0
  simp (maxSteps:=2000000) only[↓al,ak,↓reduceIte,reduceCtorEq,Nat.reduceEqDiff,Nat.reduceLeDiff,Nat.reduceSub,Nat.reduceAdd,Int.reduceToNat,Nat.reducePow,Int.reducePow,Int.reduceLE,Int.reduceLT,IntKind.bits,h0]
def sy:bC where
 pre:=fun ds=>∃(xs:List Int) (i:Nat),ds=[.ints .i64 xs,.int .i64 i]
 res:=fun ds=>match ds with
  |[.ints _ xs,.int _ i]=> .int .i64 (xs.getD i.toNat 0)
  |_=> .nilp
theorem DV (Γ:Env) (ds:List D) (h:sy.pre ds):bT Γ Md Me ds fun d=>d=sy.res ds:=by
 obtain⟨xs,i,rfl⟩:=h
 by_cases c:(i:Int)<xs.length
 ·simp (maxSteps:=2000000) only[↓al,ak,↓reduceIte,reduceCtorEq,Nat.reduceEqDiff,Nat.reduceLeDiff,Nat.reduceSub,Nat.reduceAdd,Int.reduceToNat,Nat.reducePow,Int.reducePow,Int.reduceLE,Int.reduceLT,IntKind.bits,Md,Me,sy,c]
  omega
 ·simp (maxSteps:=2000000) only[↓al,ak,↓reduceIte,reduceCtorEq,Nat.reduceEqDiff,Nat.reduceLeDiff,Nat.reduceSub,Nat.reduceAdd,Int.reduceToNat,Nat.reducePow,Int.reducePow,Int.reduceLE,Int.reduceLT,IntKind.bits,Md,Me,sy,c]
  rw[List.getD_eq_getElem?_getD,List.getElem?_eq_none (by omega)];rfl
def py:hg where
 pre:=fun bg cs=>∃(xs aB:List Int) (n:Nat),ca xs∧ca aB∧xs.length≤n∧aB.length≤n∧n≤50000∧
  ((bg=[.d (.ints .i64 xs),.d (.ints .i64 aB),.d (.int .i64 n),.dr 120 [] [.box b0 0]]∧cs=[.cells [.dr 118 [.box (b0+1) 0] []],.cells [.d (.int .i64 0)]]∧val xs+val aB<16777216^n)∨
   (bg=[.d (.ints .i64 xs),.d (.ints .i64 aB),.d (.int .i64 n),.dr 132 [] [.box b0 0]]∧cs=[.cells [.d (.int .i64 0)]]∧val aB≤val xs))
 res:=fun bg cs=>match bg with
  |[.d (.ints _ xs),.d (.ints _ aB),_,.dr f _ _]=>aZ (if f=120 then val xs+val aB else val xs - val aB)
  |_=> .nilp
 out:=fun bg cs=>cs
theorem DW (Γ:Env) (f140:Γ.fn 140=some sy) (ad2:Γ.mt 140=none) (am1:Γ.mt 120=some tJ) (am2:Γ.mt 132=some tK)
 (f117:Γ.fn 117=some jV) (wT:Γ.mt 117=none)
 (bg:List ai) (cs:List BC) (h:py.pre bg cs):vk Γ L5 L6 bg cs fun d cs'=>d=py.res bg cs∧cs'=py.out bg cs:=by
 obtain⟨xs,aB,n,aj,hy,da,hK,aQ,⟨rfl,rfl,aw⟩|⟨rfl,rfl,aw⟩⟩:=h
 ·simp (maxSteps:=2000000) only[↓al,ak,↓reduceIte,reduceCtorEq,Nat.reduceEqDiff,Nat.reduceLeDiff,Nat.reduceSub,Nat.reduceAdd,Int.reduceToNat,Nat.reducePow,Int.reducePow,Int.reduceLE,Int.reduceLT,IntKind.bits,b0,Nat.reduceBneDiff,Nat.reduceBeqDiff,Nat.reduceLT,List.flatMap_cons,List.flatMap_nil,List.append_nil,List.nil_append,List.cons_append,List.filter_cons,List.filter_nil,List.contains_cons,List.contains_nil,bne_self_eq_false,beq_self_eq_true,List.map_cons,List.map_nil,L5,L6,py]
  repeat (refine And.intro (by first|omega|(simp only[aO];omega)|(simp only[aO]at*;omega)|(simp only[List.length_append,List.length_cons,List.length_nil,List.length_set,b4];omega)) ?_)
  refine bZ (fun s=>s.ag 10= .own 13 0 n∧∃out:List Int,s.az 13=some ⟨false,false,.ints .i64 out⟩∧s.az 1000000=some ⟨false,true,.cells [.dr 118 [.box 1000001 0] []]⟩∧s.az 1000001=some ⟨false,true,.cells [.d (.int .i64 0)]⟩∧out.length=n∧ca out∧val out=val xs+val aB) ?_ ?_
  ·simp (maxSteps:=2000000) only[↓al,ak,↓reduceIte,reduceCtorEq,Nat.reduceEqDiff,Nat.reduceLeDiff,Nat.reduceSub,Nat.reduceAdd,Int.reduceToNat,Nat.reducePow,Int.reducePow,Int.reduceLE,Int.reduceLT,IntKind.bits,b0,Nat.reduceBneDiff,Nat.reduceBeqDiff,Nat.reduceLT,List.flatMap_cons,List.flatMap_nil,List.append_nil,List.nil_append,List.cons_append,List.filter_cons,List.filter_nil,List.contains_cons,List.contains_nil,bne_self_eq_false,beq_self_eq_true,List.map_cons,List.map_nil,true_and]
   refine fp (fun s=>∃(out:List Int) (c:Int) (i:Nat),s.ag 0= .d (.ints .i64 xs)∧s.ag 1= .d (.ints .i64 aB)∧s.ag 3= .dr 120 [] [.box b0 0]∧s.ag 9= .d (.fn 140 [] [])∧s.ag 10= .own 13 0 n∧s.ag 15= .d (.int .i64 n)∧s.ag 16= .d (.int .i64 i)∧
    s.az 13=some ⟨false,false,.ints .i64 out⟩∧s.az 1000000=some ⟨false,true,.cells [.dr 118 [.box 1000001 0] []]⟩∧s.az 1000001=some ⟨false,true,.cells [.d (.int .i64 c)]⟩∧out.length=n∧ca out∧i≤n∧0≤c∧c≤1∧(val (out.take i):Int)+16777216^i*c=val (xs.take i)+1*val (aB.take i))
    (fun s=>match s.ag 16 with| .d (.int _ i)=>n - i.toNat|_=>0) ?_ ?_
   ·refine⟨List.replicate n 0,0,0,?_⟩
    simp (maxSteps:=2000000) only[↓al,ak,↓reduceIte,reduceCtorEq,Nat.reduceEqDiff,Nat.reduceLeDiff,Nat.reduceSub,Nat.reduceAdd,Int.reduceToNat,Nat.reducePow,Int.reducePow,Int.reduceLE,Int.reduceLT,IntKind.bits,b0,Nat.reduceBneDiff,Nat.reduceBeqDiff,Nat.reduceLT,List.flatMap_cons,List.flatMap_nil,List.append_nil,List.nil_append,List.cons_append,List.filter_cons,List.filter_nil,List.contains_cons,List.contains_nil,bne_self_eq_false,beq_self_eq_true,List.map_cons,List.map_nil,Int.toNat_natCast,List.length_replicate]
    repeat (refine And.intro (by first|omega|(simp only[aO];omega)|(simp only[aO]at*;omega)|(simp only[List.length_append,List.length_cons,List.length_nil,List.length_set,b4];omega)) ?_)
    refine⟨fun x aj=>by rw[List.eq_of_mem_replicate aj];decide,?_⟩
    repeat (refine And.intro (by first|omega|(simp only[aO];omega)|(simp only[aO]at*;omega)|(simp only[List.length_append,List.length_cons,List.length_nil,List.length_set,b4];omega)) ?_)
    simp[val]
   ·rintro s ⟨out,c,i,h0,h1,aq,bd,bI,hq,z1,gf,j5,yg,hlen,aJ,hi,dL,au,aC⟩
    by_cases ci:(i:Int)<n
    ·have a4:i<n:=by omega
     have rz:=aj.getD i
     have afW:=hy.getD i
     have cm:(0:Int)≤i:=by omega
     simp (maxSteps:=2000000) only[↓al,ak,↓reduceIte,reduceCtorEq,Nat.reduceEqDiff,Nat.reduceLeDiff,Nat.reduceSub,Nat.reduceAdd,Int.reduceToNat,Nat.reducePow,Int.reducePow,Int.reduceLE,Int.reduceLT,IntKind.bits,b0,Nat.reduceBneDiff,Nat.reduceBeqDiff,Nat.reduceLT,List.flatMap_cons,List.flatMap_nil,List.append_nil,List.nil_append,List.cons_append,List.filter_cons,List.filter_nil,List.contains_cons,List.contains_nil,bne_self_eq_false,beq_self_eq_true,List.map_cons,List.map_nil,h0,h1,aq,bd,bI,hq,z1,gf,j5,yg,ci,a4,cm,hlen,f140,ad2,sy,am1,tJ,Int.toNat_natCast]
     have fj:=OU (out:=out) (i:=i) (c:=c) (t:=1) (s:=xs.getD i 0+aB.getD i 0+c) (by omega) aj hy (by omega) aC
     refine⟨⟨xs,i,rfl⟩,⟨aB,i,rfl⟩,⟨xs.getD i 0,aB.getD i 0,c,rfl,rfl,by omega⟩,?_⟩
     repeat (refine And.intro (by first|omega|(simp only[aO];omega)|(simp only[aO]at*;omega)|(simp only[List.length_append,List.length_cons,List.length_nil,List.length_set,b4];omega)) ?_)
     refine⟨⟨out.set i ((xs.getD i 0+aB.getD i 0+c) % 16777216),(xs.getD i 0+aB.getD i 0+c) / 16777216,i+1,?_⟩,by omega⟩
     (repeat' apply And.intro)<;>first|with_reducible rfl|omega|(simp only[List.length_append,List.length_cons,List.length_nil,List.length_set,List.length_replicate];omega)|(simp only[aO];omega)|(simp only[List.length_set];done)|(rw[Int.toNat_of_nonneg (by omega)];done)|exact fj|exact aJ.set _ (by omega) (by omega)|exact(by congr 3)
    ·simp (maxSteps:=2000000) only[↓al,ak,↓reduceIte,reduceCtorEq,Nat.reduceEqDiff,Nat.reduceLeDiff,Nat.reduceSub,Nat.reduceAdd,Int.reduceToNat,Nat.reducePow,Int.reducePow,Int.reduceLE,Int.reduceLT,IntKind.bits,b0,Nat.reduceBneDiff,Nat.reduceBeqDiff,Nat.reduceLT,List.flatMap_cons,List.flatMap_nil,List.append_nil,List.nil_append,List.cons_append,List.filter_cons,List.filter_nil,List.contains_cons,List.contains_nil,bne_self_eq_false,beq_self_eq_true,List.map_cons,List.map_nil,h0,h1,aq,bd,bI,hq,z1,gf,j5,yg,ci]
     have:i=n:=by omega
     subst this
     rw[List.take_of_length_le (by omega),List.take_of_length_le da,List.take_of_length_le hK]at aC
     have jj:=kb aJ
     rw[hlen]at jj
     have:=Pc (T:=val xs+val aB) (by rw[aC,Int.natCast_add,Int.one_mul]) jj aw (by omega)
     refine⟨out,?_⟩
     (repeat' apply And.intro)<;>first|with_reducible rfl|omega|(simp only[List.length_append,List.length_cons,List.length_nil,List.length_set,List.length_replicate];omega)|(simp only[aO];omega)|(simp only[List.length_set];done)|(rw[Int.toNat_of_nonneg (by omega)];done)|exact aJ|exact this.2|exact(by rw[this.1])
  ·rintro s ⟨bI,out,gf,j5,yg,hlen,aJ,aC⟩
   subst hlen
   simp (maxSteps:=2000000) only[↓al,ak,↓reduceIte,reduceCtorEq,Nat.reduceEqDiff,Nat.reduceLeDiff,Nat.reduceSub,Nat.reduceAdd,Int.reduceToNat,Nat.reducePow,Int.reducePow,Int.reduceLE,Int.reduceLT,IntKind.bits,b0,Nat.reduceBneDiff,Nat.reduceBeqDiff,Nat.reduceLT,List.flatMap_cons,List.flatMap_nil,List.append_nil,List.nil_append,List.cons_append,List.filter_cons,List.filter_nil,List.contains_cons,List.contains_nil,bne_self_eq_false,beq_self_eq_true,List.map_cons,List.map_nil,bI,gf,j5,yg,f117,wT,jV,List.take_length]
   repeat (refine And.intro (by first|omega|(simp only[aO];omega)|(simp only[aO]at*;omega)|(simp only[List.length_append,List.length_cons,List.length_nil,List.length_set,b4];omega)) ?_)
   exact⟨⟨out,rfl,aJ,by omega⟩,by rw[aC]⟩
 ·simp (maxSteps:=2000000) only[↓al,ak,↓reduceIte,reduceCtorEq,Nat.reduceEqDiff,Nat.reduceLeDiff,Nat.reduceSub,Nat.reduceAdd,Int.reduceToNat,Nat.reducePow,Int.reducePow,Int.reduceLE,Int.reduceLT,IntKind.bits,b0,Nat.reduceBneDiff,Nat.reduceBeqDiff,Nat.reduceLT,List.flatMap_cons,List.flatMap_nil,List.append_nil,List.nil_append,List.cons_append,List.filter_cons,List.filter_nil,List.contains_cons,List.contains_nil,bne_self_eq_false,beq_self_eq_true,List.map_cons,List.map_nil,L5,L6,py]
  repeat (refine And.intro (by first|omega|(simp only[aO];omega)|(simp only[aO]at*;omega)|(simp only[List.length_append,List.length_cons,List.length_nil,List.length_set,b4];omega)) ?_)
  refine bZ (fun s=>s.ag 10= .own 13 0 n∧∃out:List Int,s.az 13=some ⟨false,false,.ints .i64 out⟩∧s.az 1000000=some ⟨false,true,.cells [.d (.int .i64 0)]⟩∧out.length=n∧ca out∧val out=val xs - val aB) ?_ ?_
  ·simp (maxSteps:=2000000) only[↓al,ak,↓reduceIte,reduceCtorEq,Nat.reduceEqDiff,Nat.reduceLeDiff,Nat.reduceSub,Nat.reduceAdd,Int.reduceToNat,Nat.reducePow,Int.reducePow,Int.reduceLE,Int.reduceLT,IntKind.bits,b0,Nat.reduceBneDiff,Nat.reduceBeqDiff,Nat.reduceLT,List.flatMap_cons,List.flatMap_nil,List.append_nil,List.nil_append,List.cons_append,List.filter_cons,List.filter_nil,List.contains_cons,List.contains_nil,bne_self_eq_false,beq_self_eq_true,List.map_cons,List.map_nil,true_and]
   refine fp (fun s=>∃(out:List Int) (c:Int) (i:Nat),s.ag 0= .d (.ints .i64 xs)∧s.ag 1= .d (.ints .i64 aB)∧s.ag 3= .dr 132 [] [.box b0 0]∧s.ag 9= .d (.fn 140 [] [])∧s.ag 10= .own 13 0 n∧s.ag 15= .d (.int .i64 n)∧s.ag 16= .d (.int .i64 i)∧
    s.az 13=some ⟨false,false,.ints .i64 out⟩∧s.az 1000000=some ⟨false,true,.cells [.d (.int .i64 c)]⟩∧out.length=n∧ca out∧i≤n∧-1≤c∧c≤0∧(val (out.take i):Int)+16777216^i*c=val (xs.take i)+(-1)*val (aB.take i))
    (fun s=>match s.ag 16 with| .d (.int _ i)=>n - i.toNat|_=>0) ?_ ?_
   ·refine⟨List.replicate n 0,0,0,?_⟩
    simp (maxSteps:=2000000) only[↓al,ak,↓reduceIte,reduceCtorEq,Nat.reduceEqDiff,Nat.reduceLeDiff,Nat.reduceSub,Nat.reduceAdd,Int.reduceToNat,Nat.reducePow,Int.reducePow,Int.reduceLE,Int.reduceLT,IntKind.bits,b0,Nat.reduceBneDiff,Nat.reduceBeqDiff,Nat.reduceLT,List.flatMap_cons,List.flatMap_nil,List.append_nil,List.nil_append,List.cons_append,List.filter_cons,List.filter_nil,List.contains_cons,List.contains_nil,bne_self_eq_false,beq_self_eq_true,List.map_cons,List.map_nil,Int.toNat_natCast,List.length_replicate]
    repeat (refine And.intro (by first|omega|(simp only[aO];omega)|(simp only[aO]at*;omega)|(simp only[List.length_append,List.length_cons,List.length_nil,List.length_set,b4];omega)) ?_)
    refine⟨fun x aj=>by rw[List.eq_of_mem_replicate aj];decide,?_⟩
    repeat (refine And.intro (by first|omega|(simp only[aO];omega)|(simp only[aO]at*;omega)|(simp only[List.length_append,List.length_cons,List.length_nil,List.length_set,b4];omega)) ?_)
    simp[val]
   ·rintro s ⟨out,c,i,h0,h1,aq,bd,bI,hq,z1,gf,j5,hlen,aJ,hi,dL,au,aC⟩
    by_cases ci:(i:Int)<n
    ·have a4:i<n:=by omega
     have rz:=aj.getD i
     have afW:=hy.getD i
     have cm:(0:Int)≤i:=by omega
     simp (maxSteps:=2000000) only[↓al,ak,↓reduceIte,reduceCtorEq,Nat.reduceEqDiff,Nat.reduceLeDiff,Nat.reduceSub,Nat.reduceAdd,Int.reduceToNat,Nat.reducePow,Int.reducePow,Int.reduceLE,Int.reduceLT,IntKind.bits,b0,Nat.reduceBneDiff,Nat.reduceBeqDiff,Nat.reduceLT,List.flatMap_cons,List.flatMap_nil,List.append_nil,List.nil_append,List.cons_append,List.filter_cons,List.filter_nil,List.contains_cons,List.contains_nil,bne_self_eq_false,beq_self_eq_true,List.map_cons,List.map_nil,h0,h1,aq,bd,bI,hq,z1,gf,j5,ci,a4,cm,hlen,f140,ad2,sy,am2,tK,Int.toNat_natCast]
     have fj:=OU (out:=out) (i:=i) (c:=c) (t:= -1) (s:=xs.getD i 0 - aB.getD i 0+c) (by omega) aj hy (by omega) aC
     refine⟨⟨xs,i,rfl⟩,⟨aB,i,rfl⟩,⟨xs.getD i 0,aB.getD i 0,c,rfl,rfl,by omega⟩,?_⟩
     repeat (refine And.intro (by first|omega|(simp only[aO];omega)|(simp only[aO]at*;omega)|(simp only[List.length_append,List.length_cons,List.length_nil,List.length_set,b4];omega)) ?_)
     refine⟨⟨out.set i ((xs.getD i 0 - aB.getD i 0+c) % 16777216),(xs.getD i 0 - aB.getD i 0+c) / 16777216,i+1,?_⟩,by omega⟩
     (repeat' apply And.intro)<;>first|with_reducible rfl|omega|(simp only[List.length_append,List.length_cons,List.length_nil,List.length_set,List.length_replicate];omega)|(simp only[aO];omega)|(simp only[List.length_set];done)|(rw[Int.toNat_of_nonneg (by omega)];done)|exact fj|exact aJ.set _ (by omega) (by omega)|exact(by congr 3)
    ·simp (maxSteps:=2000000) only[↓al,ak,↓reduceIte,reduceCtorEq,Nat.reduceEqDiff,Nat.reduceLeDiff,Nat.reduceSub,Nat.reduceAdd,Int.reduceToNat,Nat.reducePow,Int.reducePow,Int.reduceLE,Int.reduceLT,IntKind.bits,b0,Nat.reduceBneDiff,Nat.reduceBeqDiff,Nat.reduceLT,List.flatMap_cons,List.flatMap_nil,List.append_nil,List.nil_append,List.cons_append,List.filter_cons,List.filter_nil,List.contains_cons,List.contains_nil,bne_self_eq_false,beq_self_eq_true,List.map_cons,List.map_nil,h0,h1,aq,bd,bI,hq,z1,gf,j5,ci]
     have:i=n:=by omega
     subst this
     rw[List.take_of_length_le (by omega),List.take_of_length_le da,List.take_of_length_le hK]at aC
     have jj:=kb aJ
     rw[hlen]at jj
     have aoR:=kb aj
     have asr:16777216^xs.length≤16777216^i:=Nat.pow_le_pow_right (by decide) da
     have:=Pc (T:=val xs - val aB) (c:=c) (n:=i) (v:=val out) (by rw[aC];omega) jj (by omega) (by omega)
     refine⟨out,?_⟩
     (repeat' apply And.intro)<;>first|with_reducible rfl|omega|(simp only[List.length_append,List.length_cons,List.length_nil,List.length_set,List.length_replicate];omega)|(simp only[aO];omega)|(simp only[List.length_set];done)|(rw[Int.toNat_of_nonneg (by omega)];done)|exact aJ|exact this.2|exact(by rw[this.1])
  ·rintro s ⟨bI,out,gf,j5,hlen,aJ,aC⟩
   subst hlen
   simp (maxSteps:=2000000) only[↓al,ak,↓reduceIte,reduceCtorEq,Nat.reduceEqDiff,Nat.reduceLeDiff,Nat.reduceSub,Nat.reduceAdd,Int.reduceToNat,Nat.reducePow,Int.reducePow,Int.reduceLE,Int.reduceLT,IntKind.bits,b0,Nat.reduceBneDiff,Nat.reduceBeqDiff,Nat.reduceLT,List.flatMap_cons,List.flatMap_nil,List.append_nil,List.nil_append,List.cons_append,List.filter_cons,List.filter_nil,List.contains_cons,List.contains_nil,bne_self_eq_false,beq_self_eq_true,List.map_cons,List.map_nil,bI,gf,j5,f117,wT,jV,List.take_length]
   repeat (refine And.intro (by first|omega|(simp only[aO];omega)|(simp only[aO]at*;omega)|(simp only[List.length_append,List.length_cons,List.length_nil,List.length_set,b4];omega)) ?_)
   exact⟨⟨out,rfl,aJ,by omega⟩,by rw[aC]⟩
def jo:bC where
 pre:=fun ds=>∃xs aB:List Int,ds=[.ints .i64 xs,.ints .i64 aB]∧ca xs∧ca aB∧xs.length≤20000∧aB.length≤20000
 res:=fun ds=>match ds with
  |[.ints _ xs,.ints _ aB]=>aZ (val xs+val aB)
  |_=> .nilp
theorem E9 (Γ:Env) (Mh:Γ.mt 119=some py) (ds:List D) (h:jo.pre ds):bT Γ U2 U3 ds fun d=>d=jo.res ds:=by
 obtain⟨xs,aB,rfl,aj,hy,da,hK⟩:=h
 simp (maxSteps:=2000000) only[↓al,ak,↓reduceIte,reduceCtorEq,Nat.reduceEqDiff,Nat.reduceLeDiff,Nat.reduceSub,Nat.reduceAdd,Int.reduceToNat,Nat.reducePow,Int.reducePow,Int.reduceLE,Int.reduceLT,IntKind.bits,b0,Nat.reduceBneDiff,Nat.reduceBeqDiff,Nat.reduceLT,List.flatMap_cons,List.flatMap_nil,List.append_nil,List.nil_append,List.cons_append,List.filter_cons,List.filter_nil,List.contains_cons,List.contains_nil,bne_self_eq_false,beq_self_eq_true,List.map_cons,List.map_nil,U2,U3,jo,Mh,py]
 have cb:(if (aB.length:Int)>xs.length then (aB.length:Int)else xs.length)+1=((max xs.length aB.length+1:Nat):Int):=by split<;>omega
 rw[cb]
 repeat (refine And.intro (by first|omega|(simp only[aO];omega)|(simp only[aO]at*;omega)|(simp only[List.length_append,List.length_cons,List.length_nil,List.length_set,b4];omega)) ?_)
 refine⟨xs,aB,max xs.length aB.length+1,aj,hy,by omega,by omega,by omega,.inl ⟨rfl,?_⟩⟩
 have h1:=kb aj
 have h2:=kb hy
 have aq:16777216^xs.length≤16777216^max xs.length aB.length:=Nat.pow_le_pow_right (by decide) (by omega)
 have aE:16777216^aB.length≤16777216^max xs.length aB.length:=Nat.pow_le_pow_right (by decide) (by omega)
 rw[Nat.pow_succ]
 omega
def sA:bC where
 pre:=fun ds=>∃x:Int,ds=[.int .i64 x]
 res:=fun ds=> .bool false
theorem DX (Γ:Env) (ds:List D) (h:sA.pre ds):bT Γ Sm Sn ds fun d=>d=sA.res ds:=by
 obtain⟨x,rfl⟩:=h
 simp (maxSteps:=2000000) only[↓al,ak,↓reduceIte,reduceCtorEq,Nat.reduceEqDiff,Nat.reduceLeDiff,Nat.reduceSub,Nat.reduceAdd,Int.reduceToNat,Nat.reducePow,Int.reducePow,Int.reduceLE,Int.reduceLT,IntKind.bits,Sm,Sn,sA,bne_self_eq_false]
def fW (x y:Int):Int:=if x<y then -1 else if x>y then 1 else 0
def lh:bC where
 pre:=fun ds=>∃x y:Int,ds=[.int .i64 x,.int .i64 y]
 res:=fun ds=>match ds with
  |[.int _ x,.int _ y]=> .int .i64 (fW x y)
  |_=> .nilp
theorem DY (Γ:Env) (f147:Γ.fn 147=some sA) (SF:Γ.mt 147=none) (ds:List D) (h:lh.pre ds):bT Γ HR HS ds fun d=>d=lh.res ds:=by
 obtain⟨x,y,rfl⟩:=h
 by_cases bR:x<y
 ·simp (maxSteps:=2000000) only[↓al,ak,↓reduceIte,reduceCtorEq,Nat.reduceEqDiff,Nat.reduceLeDiff,Nat.reduceSub,Nat.reduceAdd,Int.reduceToNat,Nat.reducePow,Int.reducePow,Int.reduceLE,Int.reduceLT,IntKind.bits,HR,HS,lh,f147,SF,sA,bR,fW]
  exact⟨⟨x,rfl⟩,⟨y,rfl⟩⟩
 ·by_cases cN:x>y
  ·simp (maxSteps:=2000000) only[↓al,ak,↓reduceIte,reduceCtorEq,Nat.reduceEqDiff,Nat.reduceLeDiff,Nat.reduceSub,Nat.reduceAdd,Int.reduceToNat,Nat.reducePow,Int.reducePow,Int.reduceLE,Int.reduceLT,IntKind.bits,HR,HS,lh,f147,SF,sA,bR,cN,fW]
   exact⟨⟨x,rfl⟩,⟨y,rfl⟩⟩
  ·simp (maxSteps:=2000000) only[↓al,ak,↓reduceIte,reduceCtorEq,Nat.reduceEqDiff,Nat.reduceLeDiff,Nat.reduceSub,Nat.reduceAdd,Int.reduceToNat,Nat.reducePow,Int.reducePow,Int.reduceLE,Int.reduceLT,IntKind.bits,HR,HS,lh,f147,SF,sA,bR,cN,fW]
   exact⟨⟨x,rfl⟩,⟨y,rfl⟩⟩
def jW:bC where
 pre:=fun ds=>∃a b:Nat,ds=[aZ a,aZ b]∧(ao a).length≤100000∧(ao b).length≤100000
 res:=fun ds=>match ds with
  |[.ints _ xs,.ints _ aB]=> .int .i64 (fW (val xs) (val aB))
  |_=> .nilp
theorem G3 {a b:Nat} (h:a<b):fW a b= -1:=by unfold fW;rw[if_pos (by omega)]
theorem PV {a b:Nat} (h:b<a):fW a b=1:=by unfold fW;rw[if_neg (by omega),if_pos (by omega)]
theorem G4 (a:Int):fW a a=0:=by unfold fW;rw[if_neg (by omega),if_neg (by omega)]
theorem DZ (Γ:Env) (f131:Γ.fn 131=some lh) (HT:Γ.mt 131=none) (ds:List D) (h:jW.pre ds):bT Γ LW LX ds fun d=>d=jW.res ds:=by
 obtain⟨a,b,rfl,cI,dC⟩:=h
 by_cases bR:(ao a).length=(ao b).length
 ·have lz:(((ao a).length:Int) !=(ao b).length)=false:=by rw[bR];exact bne_self_eq_false _
  simp (maxSteps:=2000000) only[↓al,ak,↓reduceIte,reduceCtorEq,Nat.reduceEqDiff,Nat.reduceLeDiff,Nat.reduceSub,Nat.reduceAdd,Int.reduceToNat,Nat.reducePow,Int.reducePow,Int.reduceLE,Int.reduceLT,IntKind.bits,LW,LX,jW,lz,b5]
  refine bZ (fun s=>a=b) ?_ ?_
  ·simp (maxSteps:=2000000) only[↓al,ak,↓reduceIte,reduceCtorEq,Nat.reduceEqDiff,Nat.reduceLeDiff,Nat.reduceSub,Nat.reduceAdd,Int.reduceToNat,Nat.reducePow,Int.reducePow,Int.reduceLE,Int.reduceLT,IntKind.bits]
   repeat (refine And.intro (by first|omega|(simp only[aO];omega)|(simp only[aO]at*;omega)|(simp only[List.length_append,List.length_cons,List.length_nil,List.length_set,b4];omega)) ?_)
   refine fp (fun s=>∃i:Int,s.ag 0= .d (.ints .i64 (ao a))∧s.ag 1= .d (.ints .i64 (ao b))∧s.ag 5= .d (.int .i64 i)∧-1≤i∧i<(ao a).length∧(ao a).drop (i+1).toNat=(ao b).drop (i+1).toNat)
    (fun s=>match s.ag 5 with| .d (.int _ i)=>(i+1).toNat|_=>0) ?_ ?_
   ·refine⟨((ao a).length:Int) - 1,?_⟩
    simp (maxSteps:=2000000) only[↓al,ak,↓reduceIte,reduceCtorEq,Nat.reduceEqDiff,Nat.reduceLeDiff,Nat.reduceSub,Nat.reduceAdd,Int.reduceToNat,Nat.reducePow,Int.reducePow,Int.reduceLE,Int.reduceLT,IntKind.bits]
    repeat (refine And.intro (by first|omega|(simp only[aO];omega)|(simp only[aO]at*;omega)|(simp only[List.length_append,List.length_cons,List.length_nil,List.length_set,b4];omega)) ?_)
    rw[List.drop_of_length_le (by omega),List.drop_of_length_le (by omega)]
   ·rintro s ⟨i,h0,h1,aF,I8,vJ,aL⟩
    by_cases ci:i≥0
    ·have a4:i.toNat<(ao a).length:=by omega
     have bc:i<(ao a).length:=by omega
     have c8:i<(ao b).length:=by omega
     by_cases ce:(ao a).getD i.toNat 0=(ao b).getD i.toNat 0
     ·have Vk:((ao a).getD i.toNat 0 !=(ao b).getD i.toNat 0)=false:=by rw[ce];exact bne_self_eq_false _
      simp (maxSteps:=2000000) only[↓al,ak,↓reduceIte,reduceCtorEq,Nat.reduceEqDiff,Nat.reduceLeDiff,Nat.reduceSub,Nat.reduceAdd,Int.reduceToNat,Nat.reducePow,Int.reducePow,Int.reduceLE,Int.reduceLT,IntKind.bits,h0,h1,aF,ci,Vk,bc,c8]
      have ard:(ao a).drop i.toNat=(ao b).drop i.toNat:=by
       rw[List.getD_eq_getElem?_getD,List.getD_eq_getElem?_getD,List.getElem?_eq_getElem a4,List.getElem?_eq_getElem (show i.toNat<(ao b).length by omega)]at ce
       simp only[Option.getD_some]at ce
       rw[List.drop_eq_getElem_cons a4,List.drop_eq_getElem_cons (show i.toNat<(ao b).length by omega),ce]
       rw[show (i+1).toNat=i.toNat+1 by omega]at aL
       rw[aL]
      repeat (refine And.intro (by first|omega|(simp only[aO];omega)|(simp only[aO]at*;omega)|(simp only[List.length_append,List.length_cons,List.length_nil,List.length_set,b4];omega)) ?_)
      refine⟨⟨i - 1,rfl,by omega,by omega,?_⟩,by omega⟩
      rw[show (i - 1+1).toNat=i.toNat by omega]
      exact ard
     ·have Vk:((ao a).getD i.toNat 0 !=(ao b).getD i.toNat 0)=true:=bne_iff_ne.2 ce
      rw[show (i+1).toNat=i.toNat+1 by omega]at aL
      simp (maxSteps:=2000000) only[↓al,ak,↓reduceIte,reduceCtorEq,Nat.reduceEqDiff,Nat.reduceLeDiff,Nat.reduceSub,Nat.reduceAdd,Int.reduceToNat,Nat.reducePow,Int.reducePow,Int.reduceLE,Int.reduceLT,IntKind.bits,h0,h1,aF,ci,Vk,bc,c8,f131,HT,lh]
      repeat (refine And.intro (by first|omega|(simp only[aO];omega)|(simp only[aO]at*;omega)|(simp only[List.length_append,List.length_cons,List.length_nil,List.length_set,b4];omega)) ?_)
      refine⟨⟨_,_,rfl⟩,?_⟩
      rcases Int.lt_or_gt_of_ne ce with aJ|aJ
      ·have:=KF (c5 a) (c5 b) a4 (by omega) aL aJ
       rw[b5,b5]at this
       rw[G3 this]
       unfold fW;rw[if_pos aJ]
      ·have:=KF (c5 b) (c5 a) (by omega) a4 aL.symm aJ
       rw[b5,b5]at this
       rw[PV this]
       unfold fW;rw[if_neg (by omega),if_pos aJ]
    ·simp (maxSteps:=2000000) only[↓al,ak,↓reduceIte,reduceCtorEq,Nat.reduceEqDiff,Nat.reduceLeDiff,Nat.reduceSub,Nat.reduceAdd,Int.reduceToNat,Nat.reducePow,Int.reducePow,Int.reduceLE,Int.reduceLT,IntKind.bits,h0,h1,aF,ci]
     rw[show (i+1).toNat=0 by omega,List.drop_zero,List.drop_zero]at aL
     exact Pb aL
  ·rintro s rfl
   simp (maxSteps:=2000000) only[↓al,ak,↓reduceIte,reduceCtorEq,Nat.reduceEqDiff,Nat.reduceLeDiff,Nat.reduceSub,Nat.reduceAdd,Int.reduceToNat,Nat.reducePow,Int.reducePow,Int.reduceLE,Int.reduceLT,IntKind.bits,G4]
 ·have lz:(((ao a).length:Int) !=(ao b).length)=true:=bne_iff_ne.2 (by omega)
  simp (maxSteps:=2000000) only[↓al,ak,↓reduceIte,reduceCtorEq,Nat.reduceEqDiff,Nat.reduceLeDiff,Nat.reduceSub,Nat.reduceAdd,Int.reduceToNat,Nat.reducePow,Int.reducePow,Int.reduceLE,Int.reduceLT,IntKind.bits,LW,LX,jW,lz,b5,f131,HT,lh]
  refine⟨⟨_,_,rfl⟩,?_⟩
  rcases Nat.lt_or_gt_of_ne bR with aJ|aJ
  ·rw[G3 (GD aJ),G3 aJ]
  ·rw[PV (GD aJ),PV aJ]
def jX:bC where
 pre:=fun ds=>∃a b:Nat,ds=[aZ a,aZ b]∧(ao a).length≤20000∧(ao b).length≤20000
 res:=fun ds=>match ds with
  |[.ints _ xs,.ints _ aB]=>if val xs<val aB then .fh [.ints .i64 [],.bool false]else .fh [aZ (val xs - val aB),.bool true]
  |_=> .nilp
theorem D0 (Γ:Env) (Mh:Γ.mt 119=some py) (f102:Γ.fn 102=some jW) (HU:Γ.mt 102=none) (ds:List D) (h:jX.pre ds):bT Γ LZ L0 ds fun d=>d=jX.res ds:=by
 obtain⟨a,b,rfl,cI,dC⟩:=h
 by_cases c:a<b
 ·have bR:fW (a:Int) b<0:=by rw[G3 c];decide
  simp (maxSteps:=2000000) only[↓al,ak,↓reduceIte,reduceCtorEq,Nat.reduceEqDiff,Nat.reduceLeDiff,Nat.reduceSub,Nat.reduceAdd,Int.reduceToNat,Nat.reducePow,Int.reducePow,Int.reduceLE,Int.reduceLT,IntKind.bits,b0,Nat.reduceBneDiff,Nat.reduceBeqDiff,Nat.reduceLT,List.flatMap_cons,List.flatMap_nil,List.append_nil,List.nil_append,List.cons_append,List.filter_cons,List.filter_nil,List.contains_cons,List.contains_nil,bne_self_eq_false,beq_self_eq_true,List.map_cons,List.map_nil,LZ,L0,jX,Mh,py,f102,HU,jW,b5,bR,c]
  exact⟨a,b,rfl,by omega,by omega⟩
 ·have bR:¬fW (a:Int) b<0:=by
   unfold fW;split
   ·omega
   ·split<;>decide
  simp (maxSteps:=2000000) only[↓al,ak,↓reduceIte,reduceCtorEq,Nat.reduceEqDiff,Nat.reduceLeDiff,Nat.reduceSub,Nat.reduceAdd,Int.reduceToNat,Nat.reducePow,Int.reducePow,Int.reduceLE,Int.reduceLT,IntKind.bits,b0,Nat.reduceBneDiff,Nat.reduceBeqDiff,Nat.reduceLT,List.flatMap_cons,List.flatMap_nil,List.append_nil,List.nil_append,List.cons_append,List.filter_cons,List.filter_nil,List.contains_cons,List.contains_nil,bne_self_eq_false,beq_self_eq_true,List.map_cons,List.map_nil,LZ,L0,jX,Mh,py,f102,HU,jW,b5,bR,c]
  have aJ:(ao b).length≤(ao a).length:=by
   rcases Nat.lt_or_ge (ao a).length (ao b).length with h|h
   ·exact absurd (GD h) c
   ·exact h
  refine⟨⟨a,b,rfl,by omega,by omega⟩,⟨ao a,ao b,(ao a).length,c5 a,c5 b,by omega,by omega,by omega,.inr ⟨rfl,?_⟩⟩⟩
  rw[b5,b5];omega
def iN:bC where
 pre:=fun ds=>∃n:Int,ds=[.int .i64 n]∧aO n
 res:=fun ds=>match ds with
  |[.int _ n]=>aZ n.toNat
  |_=> .nilp
theorem Fa (Γ:Env) (ds:List D) (h:iN.pre ds):bT Γ U4 U5 ds fun d=>d=iN.res ds:=by
 obtain⟨N,rfl,cb⟩:=h
 simp (maxSteps:=2000000) only[↓al,ak,↓reduceIte,reduceCtorEq,Nat.reduceEqDiff,Nat.reduceLeDiff,Nat.reduceSub,Nat.reduceAdd,Int.reduceToNat,Nat.reducePow,Int.reducePow,Int.reduceLE,Int.reduceLT,IntKind.bits,U4,U5,iN]
 refine bZ (fun s=>∃out:List Int,s.ag 3= .own 3 0 out.length∧s.az 3=some ⟨false,false,.ints .i64 out⟩∧out=ao N.toNat) ?_ ?_
 ·simp (maxSteps:=2000000) only[↓al,ak,↓reduceIte,reduceCtorEq,Nat.reduceEqDiff,Nat.reduceLeDiff,Nat.reduceSub,Nat.reduceAdd,Int.reduceToNat,Nat.reducePow,Int.reducePow,Int.reduceLE,Int.reduceLT,IntKind.bits]
  refine fp (fun s=>∃(out:List Int) (n:Int),s.ag 3= .own 3 0 out.length∧s.az 3=some ⟨false,false,.ints .i64 out⟩∧s.ag 0= .d (.int .i64 n)∧n≤N∧aO n∧out.length+(ao n.toNat).length≤1000∧out++ao n.toNat=ao N.toNat) (fun s=>match s.ag 0 with| .d (.int _ n)=>n.toNat|_=>0) ?_ ?_
  ·refine⟨[],N,?_⟩
   simp (maxSteps:=2000000) only[↓al,ak,↓reduceIte,reduceCtorEq,Nat.reduceEqDiff,Nat.reduceLeDiff,Nat.reduceSub,Nat.reduceAdd,Int.reduceToNat,Nat.reducePow,Int.reducePow,Int.reduceLE,Int.reduceLT,IntKind.bits]
   refine⟨Int.le_refl _,cb,?_⟩
   have:=yT (n:=N.toNat) (k:=3) (by simp only[aO]at cb;omega)
   omega
  ·rintro s ⟨out,n,aq,aW,h0,aQ,ar,hlen,aC⟩
   by_cases au:n>0
   ·simp (maxSteps:=2000000) only[↓al,ak,↓reduceIte,reduceCtorEq,Nat.reduceEqDiff,Nat.reduceLeDiff,Nat.reduceSub,Nat.reduceAdd,Int.reduceToNat,Nat.reducePow,Int.reducePow,Int.reduceLE,Int.reduceLT,IntKind.bits,aq,aW,h0,au,Pf,acd]
    have a1:ao n.toNat=n % 16777216::ao (n / 16777216).toNat:=by
     rw[xK (by omega),show n.toNat / 16777216=(n / 16777216).toNat by omega,show ((n.toNat % 16777216:Nat):Int)=n % 16777216 by omega]
    rw[a1]at aC hlen
    simp only[List.length_cons]at hlen
    repeat (refine And.intro (by first|omega|(simp only[aO];omega)|(simp only[aO]at*;omega)|(simp only[List.length_append,List.length_cons,List.length_nil,List.length_set,b4];omega)) ?_)
    refine⟨⟨out++[n % 16777216],n / 16777216,rfl,rfl,rfl,by omega,by simp only[aO]at*;omega,by simp only[List.length_append,List.length_cons,List.length_nil];omega,by rw[←aC];simp⟩,by omega⟩
   ·simp (maxSteps:=2000000) only[↓al,ak,↓reduceIte,reduceCtorEq,Nat.reduceEqDiff,Nat.reduceLeDiff,Nat.reduceSub,Nat.reduceAdd,Int.reduceToNat,Nat.reducePow,Int.reducePow,Int.reduceLE,Int.reduceLT,IntKind.bits,aq,aW,h0,au]
    refine⟨out,rfl,rfl,?_⟩
    rw[show n.toNat=0 by omega,hk,List.append_nil]at aC
    exact aC
 ·rintro s ⟨out,aq,aW,aC⟩
  simp (maxSteps:=2000000) only[↓al,ak,↓reduceIte,reduceCtorEq,Nat.reduceEqDiff,Nat.reduceLeDiff,Nat.reduceSub,Nat.reduceAdd,Int.reduceToNat,Nat.reducePow,Int.reducePow,Int.reduceLE,Int.reduceLT,IntKind.bits,aq,aW]
  rw[List.take_length,aC]
def pz:bC where
 pre:=fun ds=>∃xs aB:List Int,ds=[.ints .i64 xs,.ints .i64 aB]∧ca xs∧ca aB∧xs.length≤10000∧aB.length≤10000
 res:=fun ds=>match ds with
  |[.ints _ xs,.ints _ aB]=>aZ (val xs*val aB)
  |_=> .nilp
theorem D1 (Γ:Env) (f117:Γ.fn 117=some jV) (wT:Γ.mt 117=none) (vq:Γ.mt 118=some je) (ds:List D) (h:pz.pre ds):bT Γ Ro Rp ds fun d=>d=pz.res ds:=by
 obtain⟨xs,aB,rfl,aj,hy,da,hK⟩:=h
 simp (maxSteps:=2000000) only[↓al,ak,↓reduceIte,reduceCtorEq,Nat.reduceEqDiff,Nat.reduceLeDiff,Nat.reduceSub,Nat.reduceAdd,Int.reduceToNat,Nat.reducePow,Int.reducePow,Int.reduceLE,Int.reduceLT,IntKind.bits,Ro,Rp,pz]
 repeat (refine And.intro (by first|omega|(simp only[aO];omega)|(simp only[aO]at*;omega)|(simp only[List.length_append,List.length_cons,List.length_nil,List.length_set,b4];omega)) ?_)
 refine bZ (fun s=>∃out:List Int,s.ag 5= .own 16 0 out.length∧s.az 16=some ⟨false,false,.ints .i64 out⟩∧ca out∧out.length≤20000∧val out=val xs*val aB) ?_ ?_
 ·simp (maxSteps:=2000000) only[↓al,ak,↓reduceIte,reduceCtorEq,Nat.reduceEqDiff,Nat.reduceLeDiff,Nat.reduceSub,Nat.reduceAdd,Int.reduceToNat,Nat.reducePow,Int.reducePow,Int.reduceLE,Int.reduceLT,IntKind.bits]
  refine fp (fun s=>∃(out:List Int) (i:Nat),s.ag 0= .d (.ints .i64 xs)∧s.ag 1= .d (.ints .i64 aB)∧s.ag 5= .own 16 0 out.length∧s.az 16=some ⟨false,false,.ints .i64 out⟩∧s.ag 17= .d (.ints .i64 xs)∧s.ag 18= .d (.int .i64 xs.length)∧s.ag 19= .d (.int .i64 i)∧
   ca out∧out.length=xs.length+aB.length∧i≤xs.length∧val out=val (xs.take i)*val aB∧∀j,i+aB.length≤j→out.getD j 0=0)
   (fun s=>match s.ag 19 with| .d (.int _ n)=>xs.length - n.toNat|_=>0) ?_ ?_
  ·refine⟨List.replicate (xs.length+aB.length) 0,0,?_⟩
   simp (maxSteps:=2000000) only[↓al,ak,↓reduceIte,reduceCtorEq,Nat.reduceEqDiff,Nat.reduceLeDiff,Nat.reduceSub,Nat.reduceAdd,Int.reduceToNat,Nat.reducePow,Int.reducePow,Int.reduceLE,Int.reduceLT,IntKind.bits]
   rw[show ((xs.length:Int)+aB.length).toNat=xs.length+aB.length by omega]
   refine⟨rfl,rfl,rfl,fun x aj=> ?_,Nat.zero_le _,by rw[CO];simp[val],fun j _=> ?_⟩
   ·rw[List.eq_of_mem_replicate aj];decide
   ·rw[List.getD_eq_getElem?_getD,List.getElem?_replicate];split<;>rfl
  ·rintro s ⟨out,i,h0,h1,aF,jq,uh,ui,uj,aJ,hlen,hi,aC,br⟩
   by_cases iU:(i:Int)<xs.length
   ·have Vl:i<xs.length:=by omega
    simp (maxSteps:=2000000) only[↓al,ak,↓reduceIte,reduceCtorEq,Nat.reduceEqDiff,Nat.reduceLeDiff,Nat.reduceSub,Nat.reduceAdd,Int.reduceToNat,Nat.reducePow,Int.reducePow,Int.reduceLE,Int.reduceLT,IntKind.bits,h0,h1,aF,jq,uh,ui,uj,iU,Vl]
    refine bZ (fun s=>∃out:List Int,s.ag 0= .d (.ints .i64 xs)∧s.ag 1= .d (.ints .i64 aB)∧s.ag 5= .own 16 0 out.length∧s.az 16=some ⟨false,false,.ints .i64 out⟩∧s.ag 17= .d (.ints .i64 xs)∧s.ag 18= .d (.int .i64 xs.length)∧s.ag 19= .d (.int .i64 i)∧ca out∧out.length=xs.length+aB.length∧val out=val (xs.take (i+1))*val aB∧∀j,i+1+aB.length≤j→out.getD j 0=0) ?_ ?_
    ·simp (maxSteps:=2000000) only[↓al,ak,↓reduceIte,reduceCtorEq,Nat.reduceEqDiff,Nat.reduceLeDiff,Nat.reduceSub,Nat.reduceAdd,Int.reduceToNat,Nat.reducePow,Int.reducePow,Int.reduceLE,Int.reduceLT,IntKind.bits,h0,h1,aF,jq,uh,ui,uj,iU,Vl]
     repeat (refine And.intro (by first|omega|(simp only[aO];omega)|(simp only[aO]at*;omega)|(simp only[List.length_append,List.length_cons,List.length_nil,List.length_set,b4];omega)) ?_)
     refine bZ (fun s=>∃(df:List Int) (c:Nat),s.ag 0= .d (.ints .i64 xs)∧s.ag 1= .d (.ints .i64 aB)∧s.ag 5= .own 16 0 df.length∧s.az 16=some ⟨false,false,.ints .i64 df⟩∧s.ag 17= .d (.ints .i64 xs)∧s.ag 18= .d (.int .i64 xs.length)∧s.ag 19= .d (.int .i64 i)∧s.ag 6= .d (.int .i64 i)∧s.ag 8= .box 8 0∧s.az 8=some ⟨false,false,.cells [.d (.int .i64 (c:Nat))]⟩∧
      ca df∧df.length=xs.length+aB.length∧c<16777216∧val df+16777216^(i+aB.length)*c=val out+16777216^i*((xs.getD i 0).toNat*val aB)∧∀j,i+aB.length≤j→df.getD j 0=0) ?_ ?_
     ·simp (maxSteps:=2000000) only[↓al,ak,↓reduceIte,reduceCtorEq,Nat.reduceEqDiff,Nat.reduceLeDiff,Nat.reduceSub,Nat.reduceAdd,Int.reduceToNat,Nat.reducePow,Int.reducePow,Int.reduceLE,Int.reduceLT,IntKind.bits,h0,h1,aF,jq,uh,ui,uj,iU,Vl]
      refine fp (fun s=>∃(df:List Int) (c k:Nat),s.ag 0= .d (.ints .i64 xs)∧s.ag 1= .d (.ints .i64 aB)∧s.ag 5= .own 16 0 df.length∧s.az 16=some ⟨false,false,.ints .i64 df⟩∧s.ag 17= .d (.ints .i64 xs)∧s.ag 18= .d (.int .i64 xs.length)∧s.ag 19= .d (.int .i64 i)∧s.ag 6= .d (.int .i64 i)∧s.ag 8= .box 8 0∧s.az 8=some ⟨false,false,.cells [.d (.int .i64 (c:Nat))]⟩∧s.ag 7= .d (.int .i64 (xs.getD i 0))∧s.ag 24= .d (.ints .i64 aB)∧s.ag 25= .d (.int .i64 aB.length)∧s.ag 26= .d (.int .i64 k)∧
       ca df∧df.length=xs.length+aB.length∧c<16777216∧k≤aB.length∧val df+16777216^(i+k)*c=val out+16777216^i*((xs.getD i 0).toNat*val (aB.take k))∧∀j,i+aB.length≤j→df.getD j 0=0)
       (fun s=>match s.ag 26 with| .d (.int _ n)=>aB.length - n.toNat|_=>0) ?_ ?_
      ·refine⟨out,0,0,?_⟩
       simp (maxSteps:=2000000) only[↓al,ak,↓reduceIte,reduceCtorEq,Nat.reduceEqDiff,Nat.reduceLeDiff,Nat.reduceSub,Nat.reduceAdd,Int.reduceToNat,Nat.reducePow,Int.reducePow,Int.reduceLE,Int.reduceLT,IntKind.bits,h0,h1,aF,jq,uh,ui,uj,Int.natCast_zero]
       (repeat' apply And.intro)<;>first|with_reducible rfl|omega|(simp only[List.length_append,List.length_cons,List.length_nil,List.length_set,List.length_replicate];omega)|(simp only[aO];omega)|(simp only[List.length_set];done)|(rw[Int.toNat_of_nonneg (by omega)];done)|exact aJ|exact br|exact(by simp[val])
      ·rintro s ⟨df,c,k,h0,h1,aF,jq,uh,ui,uj,aN,aY,bk,aM,ha,uk,afX,fi,iq,au,af,qq,qs⟩
       by_cases kW:(k:Int)<aB.length
       ·have aoS:k<aB.length:=by omega
        have a4:((i:Int)+k).toNat=i+k:=by omega
        have bc:i+k<df.length:=by omega
        have rz:=aj.getD i
        have Vg:=hy.getD k
        have bu:=fi.getD (i+k)
        have x0:xs.getD i 0*aB.getD k 0=(((xs.getD i 0).toNat*(aB.getD k 0).toNat:Nat):Int):=by
         rw[Int.natCast_mul,Int.toNat_of_nonneg rz.1,Int.toNat_of_nonneg Vg.1]
        have ye:=Yq (x:=(xs.getD i 0).toNat) (y:=(aB.getD k 0).toNat) (c:=c) (o:=(df.getD (i+k) 0).toNat) (by omega) (by omega) au (by omega)
        simp (maxSteps:=2000000) only[↓al,ak,↓reduceIte,reduceCtorEq,Nat.reduceEqDiff,Nat.reduceLeDiff,Nat.reduceSub,Nat.reduceAdd,Int.reduceToNat,Nat.reducePow,Int.reducePow,Int.reduceLE,Int.reduceLT,IntKind.bits,b0,Nat.reduceBneDiff,Nat.reduceBeqDiff,Nat.reduceLT,List.flatMap_cons,List.flatMap_nil,List.append_nil,List.nil_append,List.cons_append,List.filter_cons,List.filter_nil,List.contains_cons,List.contains_nil,bne_self_eq_false,beq_self_eq_true,List.map_cons,List.map_nil,h0,h1,aF,jq,uh,ui,uj,aN,aY,bk,aM,ha,uk,afX,kW,aoS,a4,bc,x0,vq,je]
        generalize oL:df.getD (i+k) 0+(((xs.getD i 0).toNat*(aB.getD k 0).toNat:Nat):Int)=F7
        have fj:=ajC (out:=df) (j:=i+k) (c:=c) (x:=(xs.getD i 0).toNat) (y:=(aB.getD k 0).toNat) (s:=F7+c) fi bc (by omega)
        have E2:0≤F7:=by omega
        have aoM:F7+c<16777216*16777216:=by omega
        repeat (refine And.intro (by first|omega|(simp only[aO];omega)|(simp only[aO]at*;omega)|(simp only[List.length_append,List.length_cons,List.length_nil,List.length_set,b4];omega)) ?_)
        refine⟨⟨F7,(c:Int),rfl,rfl,by omega⟩,?_⟩
        repeat (refine And.intro (by first|omega|(simp only[aO];omega)|(simp only[aO]at*;omega)|(simp only[List.length_append,List.length_cons,List.length_nil,List.length_set,b4];omega)) ?_)
        refine⟨⟨df.set (i+k) ((F7+c) % 16777216),((F7+c) / 16777216).toNat,k+1,?_⟩,by omega⟩
        (repeat' apply And.intro)<;>first|with_reducible rfl|omega|(simp only[List.length_append,List.length_cons,List.length_nil,List.length_set,List.length_replicate];omega)|(simp only[aO];omega)|(simp only[List.length_set];done)|(rw[Int.toNat_of_nonneg (by omega)];done)|exact fi.set _ (by omega) (by omega)|exact(by congr 5;omega)|exact(fun j aH=>by rw[wu (by omega)];exact qs j aH)|exact(by
         rw[show i+(k+1)=i+k+1 by omega,fj,Nat.mul_add,←Nat.add_assoc,qq,CC (by omega),Nat.mul_add,Nat.mul_add,Nat.add_assoc]
         congr 2
         rw[Nat.pow_add,Nat.mul_assoc]
         congr 1
         rw[Nat.mul_left_comm])
       ·simp (maxSteps:=2000000) only[↓al,ak,↓reduceIte,reduceCtorEq,Nat.reduceEqDiff,Nat.reduceLeDiff,Nat.reduceSub,Nat.reduceAdd,Int.reduceToNat,Nat.reducePow,Int.reducePow,Int.reduceLE,Int.reduceLT,IntKind.bits,h0,h1,aF,jq,uh,ui,uj,aN,aY,bk,aM,ha,uk,afX,kW]
        rw[List.take_of_length_le (by omega),show k=aB.length by omega]at qq
        exact⟨df,c,rfl,rfl,rfl,fi,iq,au,qq,qs⟩
     ·rintro s ⟨df,c,h0,h1,aF,jq,uh,ui,uj,aN,aY,bk,fi,iq,au,qq,qs⟩
      have a4:((i:Int)+aB.length).toNat=i+aB.length:=by omega
      have bc:i+aB.length<df.length:=by omega
      simp (maxSteps:=2000000) only[↓al,ak,↓reduceIte,reduceCtorEq,Nat.reduceEqDiff,Nat.reduceLeDiff,Nat.reduceSub,Nat.reduceAdd,Int.reduceToNat,Nat.reducePow,Int.reducePow,Int.reduceLE,Int.reduceLT,IntKind.bits,h0,h1,aF,jq,uh,ui,uj,aN,aY,bk,a4,bc]
      repeat (refine And.intro (by first|omega|(simp only[aO];omega)|(simp only[aO]at*;omega)|(simp only[List.length_append,List.length_cons,List.length_nil,List.length_set,b4];omega)) ?_)
      refine⟨df.set (i+aB.length) c,by rw[List.length_set],rfl,fi.set _ (by omega) (by omega),by rw[List.length_set];exact iq,?_,fun j aH=> ?_⟩
      ·have aG:=K5 bc (c:Int)
       rw[qs _ (Nat.le_refl _)]at aG
       simp only[Int.toNat_zero,Nat.mul_zero,Nat.add_zero,Int.toNat_natCast]at aG
       rw[aG,qq,aC,CC (by omega),Nat.add_mul,Nat.mul_assoc]
      ·rw[wu (by omega)];exact qs j (by omega)
    ·rintro s ⟨df,h0,h1,aF,jq,uh,ui,uj,fi,iq,qq,qs⟩
     simp (maxSteps:=2000000) only[↓al,ak,↓reduceIte,reduceCtorEq,Nat.reduceEqDiff,Nat.reduceLeDiff,Nat.reduceSub,Nat.reduceAdd,Int.reduceToNat,Nat.reducePow,Int.reducePow,Int.reduceLE,Int.reduceLT,IntKind.bits,h0,h1,aF,jq,uh,ui,uj]
     repeat (refine And.intro (by first|omega|(simp only[aO];omega)|(simp only[aO]at*;omega)|(simp only[List.length_append,List.length_cons,List.length_nil,List.length_set,b4];omega)) ?_)
     exact⟨⟨df,i+1,rfl,rfl,by omega,fi,iq,by omega,qq,qs⟩,by omega⟩
   ·simp (maxSteps:=2000000) only[↓al,ak,↓reduceIte,reduceCtorEq,Nat.reduceEqDiff,Nat.reduceLeDiff,Nat.reduceSub,Nat.reduceAdd,Int.reduceToNat,Nat.reducePow,Int.reducePow,Int.reduceLE,Int.reduceLT,IntKind.bits,h0,h1,aF,jq,uh,ui,uj,iU]
    rw[List.take_of_length_le (by omega)]at aC
    exact⟨out,rfl,rfl,aJ,by omega,aC⟩
 ·rintro s ⟨out,aF,jq,aJ,bu,aC⟩
  simp (maxSteps:=2000000) only[↓al,ak,↓reduceIte,reduceCtorEq,Nat.reduceEqDiff,Nat.reduceLeDiff,Nat.reduceSub,Nat.reduceAdd,Int.reduceToNat,Nat.reducePow,Int.reducePow,Int.reduceLE,Int.reduceLT,IntKind.bits,aF,jq,f117,wT,jV]
  rw[List.take_length,aC]
  exact⟨⟨out,rfl,aJ,by omega⟩,rfl⟩
theorem OG {xs:List Int} {i:Nat} (h:i<xs.length) (x:Int):(xs.set i x).getD i 0=x:=by
 rw[List.getD_eq_getElem?_getD,List.getElem?_set_self h];rfl
def sB:bC where
 pre:=fun ds=>∃xs:List Int,ds=[.ints .i64 xs]∧xs.length≤100000
 res:=fun ds=>match ds with
  |[.ints _ xs]=> .ints .i64 xs
  |_=> .nilp
 own:=true
theorem D2 (Γ:Env) (ds:List D) (h:sB.pre ds):HC Γ RF RG ds fun d=>d=sB.res ds:=by
 obtain⟨xs,rfl,hlen⟩:=h
 simp (maxSteps:=2000000) only[↓al,ak,↓reduceIte,reduceCtorEq,Nat.reduceEqDiff,Nat.reduceLeDiff,Nat.reduceSub,Nat.reduceAdd,Int.reduceToNat,Nat.reducePow,Int.reducePow,Int.reduceLE,Int.reduceLT,IntKind.bits,RF,RG,sB]
 intro b aw
 cases b with
 |true=>
  have:xs=[]:=by
   have:=aw rfl
   cases xs with
   |nil=>rfl
   |cons _ _=>simp at this
  subst this
  simp (maxSteps:=2000000) only[↓al,ak,↓reduceIte,reduceCtorEq,Nat.reduceEqDiff,Nat.reduceLeDiff,Nat.reduceSub,Nat.reduceAdd,Int.reduceToNat,Nat.reducePow,Int.reducePow,Int.reduceLE,Int.reduceLT,IntKind.bits]
 |false=>
  simp (maxSteps:=2000000) only[↓al,ak,↓reduceIte,reduceCtorEq,Nat.reduceEqDiff,Nat.reduceLeDiff,Nat.reduceSub,Nat.reduceAdd,Int.reduceToNat,Nat.reducePow,Int.reducePow,Int.reduceLE,Int.reduceLT,IntKind.bits,List.nil_append]
  unfold b4;omega
def tL:hg where
 pre:=fun bg cs=>∃xs:List Int,bg=[.own b0 0 xs.length]∧cs=[.ints .i64 xs]∧xs.length≤100000
 res:=fun bg cs=> .fh []
 out:=fun bg cs=>match cs with
  |[.ints _ xs]=>[.ints .i64 xs.reverse]
  |_=>[]
theorem D3 (Γ:Env) (bg:List ai) (cs:List BC) (h:tL.pre bg cs):vk Γ SC SD bg cs fun d cs'=>d=tL.res bg cs∧cs'=tL.out bg cs:=by
 obtain⟨xs,rfl,rfl,hlen⟩:=h
 simp (maxSteps:=2000000) only[↓al,ak,↓reduceIte,reduceCtorEq,Nat.reduceEqDiff,Nat.reduceLeDiff,Nat.reduceSub,Nat.reduceAdd,Int.reduceToNat,Nat.reducePow,Int.reducePow,Int.reduceLE,Int.reduceLT,IntKind.bits,b0,Nat.reduceBneDiff,Nat.reduceBeqDiff,Nat.reduceLT,List.flatMap_cons,List.flatMap_nil,List.append_nil,List.nil_append,List.cons_append,List.filter_cons,List.filter_nil,List.contains_cons,List.contains_nil,bne_self_eq_false,beq_self_eq_true,List.map_cons,List.map_nil,SC,SD,tL]
 repeat (refine And.intro (by first|omega|(simp only[aO];omega)|(simp only[aO]at*;omega)|(simp only[List.length_append,List.length_cons,List.length_nil,List.length_set,b4];omega)) ?_)
 refine fp (fun s=>∃(gj:List Int) (i:Nat) (j:Int),s.ag 0= .own 1000000 0 xs.length∧s.ag 2= .d (.int .i64 i)∧s.ag 3= .d (.int .i64 j)∧s.az 1000000=some ⟨false,true,.ints .i64 gj⟩∧
  gj.length=xs.length∧(i:Int)+j=xs.length - 1∧i≤xs.length∧-1≤j∧(∀k:Nat,k<xs.length→gj.getD k 0=if (k<i∨j<k)then xs.getD (xs.length - 1 - k) 0 else xs.getD k 0))
  (fun s=>match s.ag 3 with| .d (.int _ j)=>(j+1).toNat|_=>0) ?_ ?_
 ·refine⟨xs,0,xs.length - 1,?_⟩
  simp (maxSteps:=2000000) only[↓al,ak,↓reduceIte,reduceCtorEq,Nat.reduceEqDiff,Nat.reduceLeDiff,Nat.reduceSub,Nat.reduceAdd,Int.reduceToNat,Nat.reducePow,Int.reducePow,Int.reduceLE,Int.reduceLT,IntKind.bits,b0,Nat.reduceBneDiff,Nat.reduceBeqDiff,Nat.reduceLT,List.flatMap_cons,List.flatMap_nil,List.append_nil,List.nil_append,List.cons_append,List.filter_cons,List.filter_nil,List.contains_cons,List.contains_nil,bne_self_eq_false,beq_self_eq_true,List.map_cons,List.map_nil,true_and]
  repeat (refine And.intro (by first|omega|(simp only[aO];omega)|(simp only[aO]at*;omega)|(simp only[List.length_append,List.length_cons,List.length_nil,List.length_set,b4];omega)) ?_)
  intro k af
  rw[if_neg (by omega)]
 ·rintro s ⟨gj,i,j,h0,h2,aq,j5,iq,afQ,hi,aH,af⟩
  by_cases c:(i:Int)<j
  ·have a4:i<xs.length:=by omega
   have bc:j.toNat<xs.length:=by omega
   have c8:(0:Int)≤j:=by omega
   have cW:j<xs.length:=by omega
   simp (maxSteps:=2000000) only[↓al,ak,↓reduceIte,reduceCtorEq,Nat.reduceEqDiff,Nat.reduceLeDiff,Nat.reduceSub,Nat.reduceAdd,Int.reduceToNat,Nat.reducePow,Int.reducePow,Int.reduceLE,Int.reduceLT,IntKind.bits,b0,Nat.reduceBneDiff,Nat.reduceBeqDiff,Nat.reduceLT,List.flatMap_cons,List.flatMap_nil,List.append_nil,List.nil_append,List.cons_append,List.filter_cons,List.filter_nil,List.contains_cons,List.contains_nil,bne_self_eq_false,beq_self_eq_true,List.map_cons,List.map_nil,h0,h2,aq,j5,c,a4,bc,c8,cW,iq,Int.toNat_natCast,List.length_set]
   repeat (refine And.intro (by first|omega|(simp only[aO];omega)|(simp only[aO]at*;omega)|(simp only[List.length_append,List.length_cons,List.length_nil,List.length_set,b4];omega)) ?_)
   refine⟨⟨(gj.set i (gj.getD j.toNat 0)).set j.toNat (gj.getD i 0),i+1,j - 1,by omega,rfl,rfl,by simp[iq],by omega,by omega,by omega,fun k zV=> ?_⟩,by omega⟩
   by_cases bE:k=j.toNat
   ·subst bE
    rw[OG (by simp[iq];omega),af i (by omega),if_neg (by omega),if_pos (by omega)]
    congr 1;omega
   ·rw[wu (fun e=>bE e.symm)]
    by_cases bM:k=i
    ·subst bM
     rw[OG (by omega),af j.toNat (by omega),if_neg (by omega),if_pos (by omega)]
     congr 1;omega
    ·rw[wu (fun e=>bM e.symm),af k zV]
     by_cases bn:k<i∨j<k
     ·rw[if_pos bn,if_pos (by omega)]
     ·rw[if_neg bn,if_neg (by omega)]
  ·simp (maxSteps:=2000000) only[↓al,ak,↓reduceIte,reduceCtorEq,Nat.reduceEqDiff,Nat.reduceLeDiff,Nat.reduceSub,Nat.reduceAdd,Int.reduceToNat,Nat.reducePow,Int.reducePow,Int.reduceLE,Int.reduceLT,IntKind.bits,b0,Nat.reduceBneDiff,Nat.reduceBeqDiff,Nat.reduceLT,List.flatMap_cons,List.flatMap_nil,List.append_nil,List.nil_append,List.cons_append,List.filter_cons,List.filter_nil,List.contains_cons,List.contains_nil,bne_self_eq_false,beq_self_eq_true,List.map_cons,List.map_nil,h0,h2,aq,j5,c]
   congr 2
   refine List.ext_getElem (by simp[iq]) fun k h1 h2=> ?_
   have:=af k (by omega)
   rw[List.getD_eq_getElem?_getD,List.getElem?_eq_getElem h1]at this
   simp only[Option.getD_some]at this
   rw[this,List.getElem_reverse]
   split
   ·rw[List.getD_eq_getElem?_getD,List.getElem?_eq_getElem (by omega)];rfl
   ·rw[List.getD_eq_getElem?_getD,List.getElem?_eq_getElem (by omega)]
    simp only[Option.getD_some]
    congr 1
    omega
def tM:bC where
 pre:=fun ds=>∃xs:List Int,ds=[.ints .i64 xs]∧xs.length≤100000
 res:=fun ds=>match ds with
  |[.ints _ xs]=> .ints .i64 xs.reverse
  |_=> .nilp
 own:=true
theorem D4 (Γ:Env) (f116:Γ.fn 116=some sB) (SG:Γ.mt 116=none) (am3:Γ.mt 154=some tL) (ds:List D) (h:tM.pre ds):HC Γ Sk Sl ds fun d=>d=tM.res ds:=by
 obtain⟨xs,rfl,hlen⟩:=h
 simp (maxSteps:=2000000) only[↓al,ak,↓reduceIte,reduceCtorEq,Nat.reduceEqDiff,Nat.reduceLeDiff,Nat.reduceSub,Nat.reduceAdd,Int.reduceToNat,Nat.reducePow,Int.reducePow,Int.reduceLE,Int.reduceLT,IntKind.bits,b0,Nat.reduceBneDiff,Nat.reduceBeqDiff,Nat.reduceLT,List.flatMap_cons,List.flatMap_nil,List.append_nil,List.nil_append,List.cons_append,List.filter_cons,List.filter_nil,List.contains_cons,List.contains_nil,bne_self_eq_false,beq_self_eq_true,List.map_cons,List.map_nil,Sk,Sl,tM,f116,SG,sB,am3,tL]
 exact⟨⟨xs,rfl,hlen⟩,⟨xs,rfl,rfl,hlen⟩,List.length_reverse⟩
def tN:List Int→List Int→Int
 |[],[]=>0
 |[],_::_=> -1
 |_::_,[]=>1
 |x::xs,y::aB=>if fW x y=0 then tN xs aB else fW x y
def tO:bC where
 pre:=fun ds=>∃xs aB:List Int,ds=[.ints .i64 xs,.ints .i64 aB]∧xs.length≤100000∧aB.length=xs.length
 res:=fun ds=>match ds with
  |[.ints _ xs,.ints _ aB]=> .int .i64 (tN xs aB)
  |_=> .nilp
theorem Yy:∀{xs aB:List Int} {i:Nat},(∀k,k<i→xs.getD k 0=aB.getD k 0)→i<xs.length→i<aB.length→fW (xs.getD i 0) (aB.getD i 0)≠0→tN xs aB=fW (xs.getD i 0) (aB.getD i 0)
 |[],_,_,_,h,_,_=>by simp at h
 |_::_,[],_,_,_,h,_=>by simp at h
 |x::xs,y::aB,0,_,_,_,eZ=>by
  simp only[List.getD_cons_zero]at*
  rw[tN,if_neg eZ]
 |x::xs,y::aB,i+1,af,h1,h2,eZ=>by
  have h0:=af 0 (by omega)
  simp only[List.getD_cons_zero,List.getD_cons_succ]at*
  rw[tN,h0,G4,if_pos rfl]
  exact Yy (fun k cn=>by have:=af (k+1) (by omega);simpa using this) (by simpa using h1) (by simpa using h2) eZ
theorem Yz:∀(xs:List Int),tN xs xs=0
 |[]=>rfl
 |x::xs=>by rw[tN,G4,if_pos rfl];exact Yz xs
theorem D5 (Γ:Env) (f131:Γ.fn 131=some lh) (HT:Γ.mt 131=none) (ds:List D) (h:tO.pre ds):bT Γ Si Sj ds fun d=>d=tO.res ds:=by
 obtain⟨xs,aB,rfl,hlen,z2⟩:=h
 simp (maxSteps:=2000000) only[↓al,ak,↓reduceIte,reduceCtorEq,Nat.reduceEqDiff,Nat.reduceLeDiff,Nat.reduceSub,Nat.reduceAdd,Int.reduceToNat,Nat.reducePow,Int.reducePow,Int.reduceLE,Int.reduceLT,IntKind.bits,Si,Sj,tO]
 refine bZ (fun s=>s.ag 0= .d (.ints .i64 xs)∧s.ag 1= .d (.ints .i64 aB)∧tN xs aB=0) ?_ ?_
 ·simp (maxSteps:=2000000) only[↓al,ak,↓reduceIte,reduceCtorEq,Nat.reduceEqDiff,Nat.reduceLeDiff,Nat.reduceSub,Nat.reduceAdd,Int.reduceToNat,Nat.reducePow,Int.reducePow,Int.reduceLE,Int.reduceLT,IntKind.bits]
  refine fp (fun s=>∃i:Nat,s.ag 0= .d (.ints .i64 xs)∧s.ag 1= .d (.ints .i64 aB)∧s.ag 9= .d (.ints .i64 xs)∧s.ag 10= .d (.int .i64 xs.length)∧s.ag 11= .d (.int .i64 i)∧i≤xs.length∧∀k,k<i→xs.getD k 0=aB.getD k 0)
   (fun s=>match s.ag 11 with| .d (.int _ n)=>xs.length - n.toNat|_=>0) ?_ ?_
  ·refine⟨0,?_⟩
   simp (maxSteps:=2000000) only[↓al,ak,↓reduceIte,reduceCtorEq,Nat.reduceEqDiff,Nat.reduceLeDiff,Nat.reduceSub,Nat.reduceAdd,Int.reduceToNat,Nat.reducePow,Int.reducePow,Int.reduceLE,Int.reduceLT,IntKind.bits]
   repeat (refine And.intro (by first|omega|(simp only[aO];omega)|(simp only[aO]at*;omega)|(simp only[List.length_append,List.length_cons,List.length_nil,List.length_set,b4];omega)) ?_)
   exact fun k af=>absurd af (Nat.not_lt_zero _)
  ·rintro s ⟨i,h0,h1,bd,bI,cB,hi,af⟩
   by_cases ci:(i:Int)<xs.length
   ·have a4:i<xs.length:=by omega
    have bc:i<aB.length:=by omega
    have c8:¬((i:Int)≥aB.length):=by omega
    by_cases yB:fW (xs.getD i 0) (aB.getD i 0)=0
    ·have Vm:(fW (xs.getD i 0) (aB.getD i 0) !=0)=false:=by rw[yB];rfl
     simp (maxSteps:=2000000) only[↓al,ak,↓reduceIte,reduceCtorEq,Nat.reduceEqDiff,Nat.reduceLeDiff,Nat.reduceSub,Nat.reduceAdd,Int.reduceToNat,Nat.reducePow,Int.reducePow,Int.reduceLE,Int.reduceLT,IntKind.bits,h0,h1,bd,bI,cB,ci,a4,bc,c8,f131,HT,lh,Vm,Int.toNat_natCast]
     repeat (refine And.intro (by first|omega|(simp only[aO];omega)|(simp only[aO]at*;omega)|(simp only[List.length_append,List.length_cons,List.length_nil,List.length_set,b4];omega)) ?_)
     refine⟨⟨_,_,rfl⟩,?_⟩
     repeat (refine And.intro (by first|omega|(simp only[aO];omega)|(simp only[aO]at*;omega)|(simp only[List.length_append,List.length_cons,List.length_nil,List.length_set,b4];omega)) ?_)
     refine⟨⟨i+1,by omega,by omega,fun k cn=> ?_⟩,by omega⟩
     by_cases e:k=i
     ·subst e
      unfold fW at yB
      split at yB
      ·omega
      ·split at yB<;>omega
     ·exact af k (by omega)
    ·have Vm:(fW (xs.getD i 0) (aB.getD i 0) !=0)=true:=bne_iff_ne.2 yB
     simp (maxSteps:=2000000) only[↓al,ak,↓reduceIte,reduceCtorEq,Nat.reduceEqDiff,Nat.reduceLeDiff,Nat.reduceSub,Nat.reduceAdd,Int.reduceToNat,Nat.reducePow,Int.reducePow,Int.reduceLE,Int.reduceLT,IntKind.bits,h0,h1,bd,bI,cB,ci,a4,bc,c8,f131,HT,lh,Vm,Int.toNat_natCast]
     repeat (refine And.intro (by first|omega|(simp only[aO];omega)|(simp only[aO]at*;omega)|(simp only[List.length_append,List.length_cons,List.length_nil,List.length_set,b4];omega)) ?_)
     exact⟨⟨_,_,rfl⟩,by rw[Yy af a4 bc yB]⟩
   ·simp (maxSteps:=2000000) only[↓al,ak,↓reduceIte,reduceCtorEq,Nat.reduceEqDiff,Nat.reduceLeDiff,Nat.reduceSub,Nat.reduceAdd,Int.reduceToNat,Nat.reducePow,Int.reducePow,Int.reduceLE,Int.reduceLT,IntKind.bits,h0,h1,bd,bI,cB,ci]
    have:xs=aB:=List.ext_getElem (by omega) fun k h1 h2=>by
     have:=af k (by omega)
     rw[List.getD_eq_getElem?_getD,List.getElem?_eq_getElem h1,List.getD_eq_getElem?_getD,List.getElem?_eq_getElem h2]at this
     simpa using this
    rw[this]
    exact Yz aB
 ·rintro s ⟨h0,h1,au⟩
  have c:¬((xs.length:Int)<aB.length):=by omega
  simp (maxSteps:=2000000) only[↓al,ak,↓reduceIte,reduceCtorEq,Nat.reduceEqDiff,Nat.reduceLeDiff,Nat.reduceSub,Nat.reduceAdd,Int.reduceToNat,Nat.reducePow,Int.reducePow,Int.reduceLE,Int.reduceLT,IntKind.bits,h0,h1,c,au]
theorem akm {a b x y p:Int} (h:fW x y≠0) (a1:0<p) (a9:0≤a) (aw:0≤b) (tY:a<p) (c4:b<p):fW (a+p*x) (b+p*y)=fW x y:=by
 unfold fW at*
 by_cases h1:x<y
 ·have:p*(x+1)≤p*y:=Int.mul_le_mul_of_nonneg_left (by omega) (by omega)
  rw[Int.mul_add]at this
  rw[if_pos h1,if_pos (by omega)]
 ·by_cases h2:x>y
  ·have:p*(y+1)≤p*x:=Int.mul_le_mul_of_nonneg_left (by omega) (by omega)
   rw[Int.mul_add]at this
   rw[if_neg h1,if_pos h2,if_neg (by omega),if_pos (by omega)]
  ·rw[if_neg h1,if_neg h2]at h;exact absurd rfl h
theorem ZN:∀(n:Nat) {xs aB:List Int},xs.length=n→aB.length=n→ca xs→ca aB→tN xs.reverse aB.reverse=fW (val xs) (val aB)
 |0,xs,aB,h1,h2,_,_=>by
  rw[List.eq_nil_of_length_eq_zero h1,List.eq_nil_of_length_eq_zero h2,G4];rfl
 |n+1,xs,aB,h1,h2,da,hK=>by
  have a4:xs=xs.take n++[xs.getD n 0]:=by
   rw[List.getD_eq_getElem?_getD,List.getElem?_eq_getElem (by omega)]
   conv=>lhs;rw[←List.take_append_drop n xs,List.drop_eq_getElem_cons (by omega),List.drop_of_length_le (by omega)]
   rfl
  have bc:aB=aB.take n++[aB.getD n 0]:=by
   rw[List.getD_eq_getElem?_getD,List.getElem?_eq_getElem (by omega)]
   conv=>lhs;rw[←List.take_append_drop n aB,List.drop_eq_getElem_cons (by omega),List.drop_of_length_le (by omega)]
   rfl
  have c7:(xs.take n).length=n:=by rw[List.length_take];omega
  have g3:(aB.take n).length=n:=by rw[List.length_take];omega
  have cM:=ZN n c7 g3 (da.take n) (hK.take n)
  have v1:=kb (da.take n)
  have v2:=kb (hK.take n)
  have d1:=da.getD n
  have d2:=hK.getD n
  generalize xs.take n=X at*
  generalize aB.take n=Y at*
  generalize xs.getD n 0=x at*
  generalize aB.getD n 0=y at*
  subst a4 bc
  rw[c7]at v1
  rw[g3]at v2
  rw[List.reverse_append,List.reverse_append,List.reverse_singleton,List.reverse_singleton,List.singleton_append,List.singleton_append,tN,yW,yW,c7,g3,cM]
  simp only[Int.natCast_add,Int.natCast_mul,Int.toNat_of_nonneg d1.1,Int.toNat_of_nonneg d2.1]
  have a1:(0:Int)<((16777216^n:Nat):Int):=by have:=Nat.pow_pos (n:=n) (show 0<16777216 by decide);omega
  by_cases h:fW x y=0
  ·rw[if_pos h]
   have:x=y:=by
    unfold fW at h
    split at h
    ·omega
    ·split at h<;>omega
   subst this
   unfold fW
   by_cases c:val X<val Y
   ·rw[if_pos (by omega),if_pos (by omega)]
   ·by_cases cN:val X>val Y
    ·rw[if_neg (by omega),if_pos (by omega),if_neg (by omega),if_pos (by omega)]
    ·rw[if_neg (by omega),if_neg (by omega),if_neg (by omega),if_neg (by omega)]
  ·rw[if_neg h,akm h a1 (by omega) (by omega) (by omega) (by omega)]
def vr:bC where
 pre:=fun ds=>∃x:Int,ds=[.int .u64 x]∧0≤x∧x<18446744073709551616
 res:=fun ds=>match ds with
  |[.int _ x]=> .int .i64 (bp x.toNat)
  |_=> .nilp
def jG:bC where
 pre:=fun ds=>∃n:Nat,ds=[aZ n]∧(ao n).length≤100000
 res:=fun ds=>match ds with
  |[.ints _ xs]=> .int .i64 (bp (val xs))
  |_=> .nilp
theorem Fb (Γ:Env) (f128:Γ.fn 128=some vr) (am4:Γ.mt 128=none) (ds:List D) (h:jG.pre ds):bT Γ Nv Nw ds fun d=>d=jG.res ds:=by
 obtain⟨n,rfl,hlen⟩:=h
 by_cases h0:n=0
 ·subst h0
  simp (maxSteps:=2000000) only[↓al,ak,↓reduceIte,reduceCtorEq,Nat.reduceEqDiff,Nat.reduceLeDiff,Nat.reduceSub,Nat.reduceAdd,Int.reduceToNat,Nat.reducePow,Int.reducePow,Int.reduceLE,Int.reduceLT,IntKind.bits,Nv,Nw,jG,hk,List.length_nil]
  rfl
 ·have a1:=xG h0
  have e8:(((ao n).length:Int)==0)=false:=beq_false_of_ne (by omega)
  have aw:=ZC (c5 n) (ZD h0) (J2 h0)
  have aL:=(c5 n).getD ((ao n).length - 1)
  have a4:(((ao n).length:Int) - 1).toNat=(ao n).length - 1:=by omega
  have bR:(0:Int)≤((ao n).length:Int) - 1:=by omega
  have cN:((ao n).length - 1)<(ao n).length:=by omega
  have hw:IntKind.u64.wrap ((ao n).getD ((ao n).length - 1) 0)=(ao n).getD ((ao n).length - 1) 0:=by
   generalize (ao n).getD ((ao n).length - 1) 0=x at*
   unfold IntKind.wrap
   simp only[show IntKind.u64.bits=64 from rfl,show IntKind.u64.signed=false from rfl,Bool.false_and,Bool.false_eq_true,if_false]
   omega
  have ix:bp ((ao n).getD ((ao n).length - 1) 0).toNat≤24:=jP.2 (by have:=aL.2;omega)
  simp (maxSteps:=2000000) only[↓al,ak,↓reduceIte,reduceCtorEq,Nat.reduceEqDiff,Nat.reduceLeDiff,Nat.reduceSub,Nat.reduceAdd,Int.reduceToNat,Nat.reducePow,Int.reducePow,Int.reduceLE,Int.reduceLT,IntKind.bits,Nv,Nw,jG,e8,a4,bR,cN,b5,f128,am4,vr,hw]
  rw[b5]at aw
  repeat (refine And.intro (by first|omega|(simp only[aO];omega)|(simp only[aO]at*;omega)|(simp only[List.length_append,List.length_cons,List.length_nil,List.length_set,b4];omega)) ?_)
  refine⟨⟨_,rfl,aL.1,by omega⟩,?_⟩
  repeat (refine And.intro (by first|omega|(simp only[aO];omega)|(simp only[aO]at*;omega)|(simp only[List.length_append,List.length_cons,List.length_nil,List.length_set,b4];omega)) ?_)
  rw[aw]
  omega
def kg:bC where
 pre:=fun ds=>∃(xs:List Int) (k:Int),ds=[.ints .i64 xs,.int .i64 k]∧ca xs∧xs.length≤10000∧k≤200000
 res:=fun ds=>match ds with
  |[.ints _ xs,.int _ k]=>aZ (val xs*2^k.toNat)
  |_=> .nilp
theorem D6 (Γ:Env) (f117:Γ.fn 117=some jV) (wT:Γ.mt 117=none) (vq:Γ.mt 118=some je) (ds:List D) (h:kg.pre ds):bT Γ Rk Rl ds fun d=>d=kg.res ds:=by
 obtain⟨xs,k,rfl,aj,da,af⟩:=h
 obtain⟨K,cj⟩:∃K:Nat,K=k.toNat:=⟨_,rfl⟩
 have z3:(if (0:Int)>k then 0 else k)=(K:Int):=by split<;>omega
 obtain⟨Q,cK⟩:∃Q:Nat,Q=K / 24:=⟨_,rfl⟩
 obtain⟨R,en⟩:∃R:Nat,R=K % 24:=⟨_,rfl⟩
 have ad3:R≤64:=by omega
 have d1:(K:Int).tdiv 24=(Q:Int):=by rw[cK];rfl
 have d2:(K:Int).tmod 24=(R:Int):=by rw[en];rfl
 have iR:((Q:Int)+xs.length+1).toNat=Q+xs.length+1:=by omega
 have pT:Q+(Q+xs.length+1 - Q)≤Q+xs.length+1:=by omega
 have Ao:xs.take (Q+xs.length+1 - Q)=xs:=List.take_of_length_le (by omega)
 have yE:xs.length≤Q+xs.length+1 - Q:=by omega
 have N5:(List.replicate (Q+xs.length+1) (0:Int)).take Q++(xs++(List.replicate (Q+xs.length+1) (0:Int)).drop (Q+xs.length))=List.replicate Q 0++(xs++[0]):=by
  rw[List.take_replicate,List.drop_replicate,Nat.min_eq_left (by omega),show Q+xs.length+1 - (Q+xs.length)=1 by omega];rfl
 simp (maxSteps:=2000000) only[↓al,ak,↓reduceIte,reduceCtorEq,Nat.reduceEqDiff,Nat.reduceLeDiff,Nat.reduceSub,Nat.reduceAdd,Int.reduceToNat,Nat.reducePow,Int.reducePow,Int.reduceLE,Int.reduceLT,IntKind.bits,Rk,Rl,kg,z3,d1,d2,iR,pT,Ao,yE,N5]
 rw[cj]at*
 repeat (refine And.intro (by first|omega|(simp only[aO];omega)|(simp only[aO]at*;omega)|(simp only[List.length_append,List.length_cons,List.length_nil,List.length_set,b4];omega)) ?_)
 have ie:k.toNat=24*Q+R:=by omega
 obtain⟨p,a1⟩:∃p:Nat,p=2^R:=⟨_,rfl⟩
 have Nz:16777216^Q*p=2^k.toNat:=by rw[a1,zb,←Nat.pow_add,ie]
 have kH:p≤8388608:=by
  have:2^R≤2^23:=Nat.pow_le_pow_right (by decide) (by omega)
  omega
 refine bZ (fun s=>s.ag 7= .own 21 0 (Q+xs.length+1)∧∃out:List Int,s.az 21=some ⟨false,false,.ints .i64 out⟩∧ca out∧out.length=Q+xs.length+1∧val out=val xs*2^k.toNat) ?_ ?_
 ·simp (maxSteps:=2000000) only[↓al,ak,↓reduceIte,reduceCtorEq,Nat.reduceEqDiff,Nat.reduceLeDiff,Nat.reduceSub,Nat.reduceAdd,Int.reduceToNat,Nat.reducePow,Int.reducePow,Int.reduceLE,Int.reduceLT,IntKind.bits]
  refine fp (fun s=>∃(out:List Int) (c j:Nat),s.ag 5= .d (.int .i64 Q)∧s.ag 6= .d (.int .i64 R)∧s.ag 7= .own 21 0 (Q+xs.length+1)∧s.ag 8= .box 8 0∧s.az 8=some ⟨false,false,.cells [.d (.int .i64 c)]⟩∧s.ag 9= .d (.int .i64 (Q+j:Nat))∧
   s.az 21=some ⟨false,false,.ints .i64 out⟩∧ca out∧out.length=Q+xs.length+1∧j≤xs.length+1∧c<16777216∧(∀i,j≤i→out.getD (Q+i) 0=xs.getD i 0)∧val (out.take (Q+j))+16777216^(Q+j)*c=16777216^Q*(p*val (xs.take j)))
   (fun s=>match s.ag 9 with| .d (.int _ n)=>Q+xs.length+1 - n.toNat|_=>0) ?_ ?_
  ·refine⟨List.replicate Q 0++(xs++[0]),0,0,?_⟩
   simp (maxSteps:=2000000) only[↓al,ak,↓reduceIte,reduceCtorEq,Nat.reduceEqDiff,Nat.reduceLeDiff,Nat.reduceSub,Nat.reduceAdd,Int.reduceToNat,Nat.reducePow,Int.reducePow,Int.reduceLE,Int.reduceLT,IntKind.bits,Int.natCast_zero,Nat.add_zero]
   (repeat' apply And.intro)<;>first|with_reducible rfl|omega|(simp only[List.length_append,List.length_cons,List.length_nil,List.length_set,List.length_replicate];omega)|(simp only[aO];omega)|(simp only[List.length_set];done)|(rw[Int.toNat_of_nonneg (by omega)];done)|exact(ca.append (fun x aj=>by rw[List.eq_of_mem_replicate aj];decide) (aj.snoc (by decide) (by decide)))|exact(fun i _=>by
    rw[List.getD_eq_getElem?_getD,List.getElem?_append_right (by rw[List.length_replicate];omega),List.length_replicate,Nat.add_sub_cancel_left,←List.getD_eq_getElem?_getD]
    rcases Nat.lt_or_ge i xs.length with h|h
    ·rw[List.getD_eq_getElem?_getD,List.getElem?_append_left h,←List.getD_eq_getElem?_getD]
    ·rw[List.getD_eq_getElem?_getD,List.getElem?_append_right h,List.getD_eq_getElem?_getD,List.getElem?_eq_none (l:=xs) h]
     rcases Nat.eq_zero_or_pos (i - xs.length)with h0|h0
     ·rw[h0];rfl
     ·rw[List.getElem?_eq_none (by simp;omega)])|exact(by
    rw[List.take_append_of_le_length (by simp),List.take_of_length_le (by simp),CO];simp[val])
  ·rintro s ⟨out,c,j,aF,aN,aM,aY,bk,bd,yf,aJ,hlen,aH,au,qT,aC⟩
   by_cases JI:((Q+j:Nat):Int)<(Q+xs.length+1:Nat)
   ·have a4:Q+j<Q+xs.length+1:=by omega
    have I4:=aj.getD j
    have bh:=qT j (Nat.le_refl _)
    have x0:xs.getD j 0*2^R=(((xs.getD j 0).toNat*p:Nat):Int):=by rw[Int.natCast_mul,Int.toNat_of_nonneg I4.1,a1,Int.natCast_pow];rfl
    have ye:(xs.getD j 0).toNat*p≤16777215*8388608:=Nat.mul_le_mul (by omega) kH
    simp (maxSteps:=2000000) only[↓al,ak,↓reduceIte,reduceCtorEq,Nat.reduceEqDiff,Nat.reduceLeDiff,Nat.reduceSub,Nat.reduceAdd,Int.reduceToNat,Nat.reducePow,Int.reducePow,Int.reduceLE,Int.reduceLT,IntKind.bits,b0,Nat.reduceBneDiff,Nat.reduceBeqDiff,Nat.reduceLT,List.flatMap_cons,List.flatMap_nil,List.append_nil,List.nil_append,List.cons_append,List.filter_cons,List.filter_nil,List.contains_cons,List.contains_nil,bne_self_eq_false,beq_self_eq_true,List.map_cons,List.map_nil,aF,aN,aM,aY,bk,bd,yf,JI,a4,hlen,Int.toNat_natCast,bh,ad3,x0,vq,je]
    have fj:=ajD (out:=out) (x:=(xs.getD j 0).toNat) (by omega) aC
    have jv:(xs.getD j 0).toNat*p≤140737488355328:=by omega
    rw[←Gm]at fj
    generalize (xs.getD j 0).toNat*p=X at*
    repeat (refine And.intro (by first|omega|(simp only[aO];omega)|(simp only[aO]at*;omega)|(simp only[List.length_append,List.length_cons,List.length_nil,List.length_set,b4];omega)) ?_)
    refine⟨⟨_,_,rfl,rfl,by omega⟩,?_⟩
    repeat (refine And.intro (by first|omega|(simp only[aO];omega)|(simp only[aO]at*;omega)|(simp only[List.length_append,List.length_cons,List.length_nil,List.length_set,b4];omega)) ?_)
    refine⟨⟨out.set (Q+j) (((X:Int)+c) % 16777216),(((X:Int)+c) / 16777216).toNat,j+1,?_⟩,by omega⟩
    (repeat' apply And.intro)<;>first|with_reducible rfl|omega|(simp only[List.length_append,List.length_cons,List.length_nil,List.length_set,List.length_replicate];omega)|(simp only[aO];omega)|(simp only[List.length_set];done)|(rw[Int.toNat_of_nonneg (by omega)];done)|exact aJ.set _ (by omega) (by omega)|exact(fun i hi=>by rw[wu (by omega)];exact qT i (by omega))|exact fj
   ·simp (maxSteps:=2000000) only[↓al,ak,↓reduceIte,reduceCtorEq,Nat.reduceEqDiff,Nat.reduceLeDiff,Nat.reduceSub,Nat.reduceAdd,Int.reduceToNat,Nat.reducePow,Int.reducePow,Int.reduceLE,Int.reduceLT,IntKind.bits,aF,aN,aM,aY,bk,bd,yf,JI]
    have:j=xs.length+1:=by omega
    subst this
    rw[List.take_of_length_le (by omega),List.take_of_length_le (by omega),←Nat.mul_assoc]at aC
    refine⟨out,rfl,aJ,hlen,?_⟩
    have:=carry_zero aC (by rw[←Nat.add_assoc];exact akg aj (by omega))
    rw[this.2,Nz,Nat.mul_comm]
 ·rintro s ⟨aM,out,yf,aJ,hlen,aC⟩
  simp (maxSteps:=2000000) only[↓al,ak,↓reduceIte,reduceCtorEq,Nat.reduceEqDiff,Nat.reduceLeDiff,Nat.reduceSub,Nat.reduceAdd,Int.reduceToNat,Nat.reducePow,Int.reducePow,Int.reduceLE,Int.reduceLT,IntKind.bits,aM,yf,f117,wT,jV,←hlen,List.take_length]
  exact⟨⟨out,rfl,aJ,by omega⟩,by rw[aC]⟩
def jH:bC where
 pre:=fun ds=>∃(xs:List Int) (k:Int),ds=[.ints .i64 xs,.int .i64 k]∧ca xs∧xs.length≤20000∧aO k
 res:=fun ds=>match ds with
  |[.ints _ xs,.int _ k]=>aZ (val xs / 2^k.toNat)
  |_=> .nilp
theorem Fc (Γ:Env) (f117:Γ.fn 117=some jV) (wT:Γ.mt 117=none) (f116:Γ.fn 116=some sB) (SG:Γ.mt 116=none) (ds:List D) (h:jH.pre ds):bT Γ Nn Np ds fun d=>d=jH.res ds:=by
 obtain⟨xs,k,rfl,aj,da,ub⟩:=h
 obtain⟨K,cj⟩:∃K:Nat,K=k.toNat:=⟨_,rfl⟩
 have z3:(if (0:Int)>k then 0 else k)=(K:Int):=by split<;>omega
 obtain⟨Q,cK⟩:∃Q:Nat,Q=K / 24:=⟨_,rfl⟩
 obtain⟨R,en⟩:∃R:Nat,R=K % 24:=⟨_,rfl⟩
 have d1:(K:Int).tdiv 24=(Q:Int):=by rw[cK];rfl
 have d2:(K:Int).tmod 24=(R:Int):=by rw[en];rfl
 have ie:k.toNat=24*Q+R:=by omega
 obtain⟨p,a1⟩:∃p:Nat,p=2^R:=⟨_,rfl⟩
 have fF:0<p:=by rw[a1];exact Nat.two_pow_pos _
 have Nz:16777216^Q*p=2^k.toNat:=by rw[a1,zb,←Nat.pow_add,ie]
 by_cases e8:(Q:Int)≥xs.length
 ·simp (maxSteps:=2000000) only[↓al,ak,↓reduceIte,reduceCtorEq,Nat.reduceEqDiff,Nat.reduceLeDiff,Nat.reduceSub,Nat.reduceAdd,Int.reduceToNat,Nat.reducePow,Int.reducePow,Int.reduceLE,Int.reduceLT,IntKind.bits,Nn,Np,jH,z3,d1,d2,e8]
  simp only[aO]at ub
  repeat (refine And.intro (by first|omega|(simp only[aO];omega)|(simp only[aO]at*;omega)|(simp only[List.length_append,List.length_cons,List.length_nil,List.length_set,b4];omega)) ?_)
  have h1:=J9 aj Q
  rw[List.drop_of_length_le (by omega)]at h1
  rw[←Nz,←Nat.div_div_eq_div_mul,←h1]
  simp[val,hk]
 ·have bR:Q≤xs.length:=by omega
  have iR:(xs.drop Q).take (xs.length - Q)=xs.drop Q:=List.take_of_length_le (by simp)
  obtain⟨q,a7⟩:∃q:Nat,q=2^(24 - R):=⟨_,rfl⟩
  have ad3:R<24:=by omega
  have sS:p*q=16777216:=by rw[a1,a7,←Nat.pow_add,show R+(24 - R)=24 by omega]
  have Vn:q≤16777216:=by
   have:1*q≤p*q:=Nat.mul_le_mul_right _ fF
   omega
  obtain⟨zs,sQ⟩:∃zs,zs=xs.drop Q:=⟨_,rfl⟩
  have br:ca zs:=by rw[sQ];exact aj.drop Q
  have SR:zs.length=xs.length - Q:=by rw[sQ,List.length_drop]
  have aoT:∀i,xs.getD (Q+i) 0=zs.getD i 0:=fun i=>by rw[sQ,List.getD_eq_getElem?_getD,List.getD_eq_getElem?_getD,List.getElem?_drop]
  have Ik:val zs / p=val xs / 2^k.toNat:=by rw[sQ,J9 aj,Nat.div_div_eq_div_mul,Nz]
  simp (maxSteps:=2000000) only[↓al,ak,↓reduceIte,reduceCtorEq,Nat.reduceEqDiff,Nat.reduceLeDiff,Nat.reduceSub,Nat.reduceAdd,Int.reduceToNat,Nat.reducePow,Int.reducePow,Int.reduceLE,Int.reduceLT,IntKind.bits,Nn,Np,jH,z3,d1,d2,e8,bR,f116,SG,sB,Int.toNat_natCast,List.take_length,←sQ]
  simp only[aO]at ub
  repeat (refine And.intro (by first|omega|(simp only[aO];omega)|(simp only[aO]at*;omega)|(simp only[List.length_append,List.length_cons,List.length_nil,List.length_set,b4];omega)) ?_)
  refine⟨⟨zs,rfl,by omega⟩,?_⟩
  refine bZ (fun s=>s.ag 7= .own 22 0 zs.length∧∃out:List Int,s.az 22=some ⟨false,false,.ints .i64 out⟩∧ca out∧out.length=zs.length∧val out=val zs / p) ?_ ?_
  ·simp (maxSteps:=2000000) only[↓al,ak,↓reduceIte,reduceCtorEq,Nat.reduceEqDiff,Nat.reduceLeDiff,Nat.reduceSub,Nat.reduceAdd,Int.reduceToNat,Nat.reducePow,Int.reducePow,Int.reduceLE,Int.reduceLT,IntKind.bits]
   refine fp (fun s=>∃(out:List Int) (i:Nat),s.ag 0= .d (.ints .i64 xs)∧s.ag 5= .d (.int .i64 Q)∧s.ag 6= .d (.int .i64 R)∧s.ag 7= .own 22 0 zs.length∧s.ag 24= .d (.int .i64 zs.length)∧s.ag 25= .d (.int .i64 i)∧
    s.az 22=some ⟨false,false,.ints .i64 out⟩∧ca out∧out.length=zs.length∧i≤zs.length∧(∀k,i≤k→out.getD k 0=zs.getD k 0)∧val (out.take i)+16777216^i*(val (zs.drop i) / p)=val zs / p)
    (fun s=>match s.ag 25 with| .d (.int _ n)=>zs.length - n.toNat|_=>0) ?_ ?_
   ·refine⟨zs,0,?_⟩
    simp (maxSteps:=2000000) only[↓al,ak,↓reduceIte,reduceCtorEq,Nat.reduceEqDiff,Nat.reduceLeDiff,Nat.reduceSub,Nat.reduceAdd,Int.reduceToNat,Nat.reducePow,Int.reducePow,Int.reduceLE,Int.reduceLT,IntKind.bits]
    (repeat' apply And.intro)<;>first|with_reducible rfl|omega|(simp only[List.length_append,List.length_cons,List.length_nil,List.length_set,List.length_replicate];omega)|(simp only[aO];omega)|(simp only[List.length_set];done)|(rw[Int.toNat_of_nonneg (by omega)];done)|exact br|exact(fun _ _=>rfl)|exact(by simp[val])
   ·rintro s ⟨out,i,h0,aF,aN,aM,ha,uk,I9,aJ,hlen,hi,qT,aC⟩
    by_cases ci:(i:Int)<zs.length
    ·have a4:i<zs.length:=by omega
     have rz:=br.getD i
     have I4:=br.getD (i+1)
     obtain⟨x,jv⟩:∃x:Nat,zs.getD i 0=(x:Int):=⟨_,(Int.toNat_of_nonneg rz.1).symm⟩
     obtain⟨y,iV⟩:∃y:Nat,zs.getD (i+1) 0=(y:Int):=⟨_,(Int.toNat_of_nonneg I4.1).symm⟩
     have bh:out.getD i 0=(x:Int):=by rw[qT i (Nat.le_refl _),jv]
     have bc:R≤64:=by omega
     have c8:(x:Int).fdiv (2^R)=((x / p:Nat):Int):=by
      rw[show (2:Int)^R=((p:Nat):Int)by rw[a1,Int.natCast_pow];rfl,Int.fdiv_eq_ediv_of_nonneg _ (by omega)]
      rfl
     have cW:(out.set i ((x / p:Nat):Int)).getD i 0=((x / p:Nat):Int):=OG (by omega) _
     have ye:=ZF fF sS (x:=x) (by omega) y
     have fj:=ZE fF sS x (val (zs.drop (i+1)))
     rw[Xz sS,iV,Int.toNat_natCast]at fj
     rw[r5 zs i,jv,Int.toNat_natCast,fj]at aC
     have hle:x / p≤x:=Nat.div_le_self _ _
     have ad4:∀u:Int,u=((x / p+y % p*q:Nat):Int)→val ((out.set i u).take (i+1))+16777216^(i+1)*(val (zs.drop (i+1)) / p)=val zs / p:=by
      rintro u rfl
      rw[Ka (by omega),Int.toNat_natCast,←aC,Nat.pow_succ,Nat.mul_assoc,Nat.add_assoc,←Nat.mul_add]
     have ace:∀u:Int,∀k,i+1≤k→(out.set i u).getD k 0=zs.getD k 0:=fun u k af=>by rw[wu (by omega)];exact qT k (by omega)
     by_cases cN:(Q:Int)+i+1<xs.length
     ·have eg:((Q:Int)+i+1).toNat=Q+(i+1):=by omega
      have fA:xs.getD (Q+(i+1)) 0=(y:Int):=by rw[aoT,iV]
      have JH:((24:Int) - R).toNat=24 - R:=by omega
      have pV:24 - R≤64:=by omega
      have arf:(y:Int)*2^(24 - R)=((y*q:Nat):Int):=by rw[Int.natCast_mul,a7,Int.natCast_pow];rfl
      have NA:((y*q:Nat):Int) % 16777216=((y % p*q:Nat):Int):=by
       rw[show (16777216:Int)=((p*q:Nat):Int)by rw[sS];rfl,←Int.natCast_emod,Nat.mul_mod_mul_right]
      have aoU:Ig .i64 ((x / p:Nat):Int) ((y % p*q:Nat):Int)=((x / p+y % p*q:Nat):Int):=by
       refine akU (k:=24 - R) (c:=y % p) ?_ ?_ (by omega)
       ·rw[←a7,Nat.div_lt_iff_lt_mul fF,Nat.mul_comm,sS];omega
       ·rw[←a7,Nat.mul_comm]
      have ass:y*q≤16777215*16777216:=Nat.mul_le_mul (by omega) Vn
      have Ja:Q+(i+1)<xs.length:=by omega
      simp (maxSteps:=2000000) only[↓al,ak,↓reduceIte,reduceCtorEq,Nat.reduceEqDiff,Nat.reduceLeDiff,Nat.reduceSub,Nat.reduceAdd,Int.reduceToNat,Nat.reducePow,Int.reducePow,Int.reduceLE,Int.reduceLT,IntKind.bits,h0,aF,aN,aM,ha,uk,I9,ci,a4,hlen,bh,bc,c8,cW,cN,eg,fA,JH,pV,arf,NA,aoU,Ja,Pf,Int.toNat_natCast,List.length_set,List.set_set]
      have hf:=ad4 _ rfl
      generalize y*q=as5 at*
      generalize x / p=U at*
      generalize y % p*q=W at*
      repeat (refine And.intro (by first|omega|(simp only[aO];omega)|(simp only[aO]at*;omega)|(simp only[List.length_append,List.length_cons,List.length_nil,List.length_set,b4];omega)) ?_)
      refine⟨⟨out.set i ((U+W:Nat):Int),i+1,?_⟩,by omega⟩
      (repeat' apply And.intro)<;>first|with_reducible rfl|omega|(simp only[List.length_append,List.length_cons,List.length_nil,List.length_set,List.length_replicate];omega)|(simp only[aO];omega)|(simp only[List.length_set];done)|(rw[Int.toNat_of_nonneg (by omega)];done)|exact aJ.set _ (by omega) (by omega)|exact ace _|exact hf
     ·have Vo:y=0:=by
       rw[List.getD_eq_getElem?_getD,List.getElem?_eq_none (by omega)]at iV
       simp only[Option.getD_none]at iV;omega
      subst Vo
      have hf:=ad4 ((x / p:Nat):Int) (by rw[Nat.zero_mod,Nat.zero_mul,Nat.add_zero])
      simp (maxSteps:=2000000) only[↓al,ak,↓reduceIte,reduceCtorEq,Nat.reduceEqDiff,Nat.reduceLeDiff,Nat.reduceSub,Nat.reduceAdd,Int.reduceToNat,Nat.reducePow,Int.reducePow,Int.reduceLE,Int.reduceLT,IntKind.bits,h0,aF,aN,aM,ha,uk,I9,ci,a4,hlen,bh,bc,c8,cW,cN,Int.toNat_natCast,List.length_set,List.set_set]
      generalize x / p=U at*
      repeat (refine And.intro (by first|omega|(simp only[aO];omega)|(simp only[aO]at*;omega)|(simp only[List.length_append,List.length_cons,List.length_nil,List.length_set,b4];omega)) ?_)
      refine⟨⟨out.set i (U:Int),i+1,?_⟩,by omega⟩
      (repeat' apply And.intro)<;>first|with_reducible rfl|omega|(simp only[List.length_append,List.length_cons,List.length_nil,List.length_set,List.length_replicate];omega)|(simp only[aO];omega)|(simp only[List.length_set];done)|(rw[Int.toNat_of_nonneg (by omega)];done)|exact aJ.set _ (by omega) (by omega)|exact ace _|exact hf
    ·simp (maxSteps:=2000000) only[↓al,ak,↓reduceIte,reduceCtorEq,Nat.reduceEqDiff,Nat.reduceLeDiff,Nat.reduceSub,Nat.reduceAdd,Int.reduceToNat,Nat.reducePow,Int.reducePow,Int.reduceLE,Int.reduceLT,IntKind.bits,h0,aF,aN,aM,ha,uk,I9,ci]
     have:i=zs.length:=by omega
     subst this
     rw[List.take_of_length_le (by omega),List.drop_length]at aC
     refine⟨out,rfl,aJ,hlen,?_⟩
     rw[←aC];simp[val]
  ·rintro s ⟨aM,out,I9,aJ,hlen,aC⟩
   simp (maxSteps:=2000000) only[↓al,ak,↓reduceIte,reduceCtorEq,Nat.reduceEqDiff,Nat.reduceLeDiff,Nat.reduceSub,Nat.reduceAdd,Int.reduceToNat,Nat.reducePow,Int.reducePow,Int.reduceLE,Int.reduceLT,IntKind.bits,aM,I9,f117,wT,jV,←hlen,List.take_length]
   exact⟨⟨out,rfl,aJ,by omega⟩,by rw[aC,Ik]⟩
def sC:hg where
 pre:=fun bg cs=>∃(xs:List Int) (b i:Nat),bg=[.own b0 0 xs.length,.d (.int .i64 b),.d (.int .i64 i)]∧cs=[.ints .i64 xs]∧ca xs∧xs.length≤100000∧b≤2∧i≤4∧val xs*2^b+i<16777216^xs.length
 res:=fun bg cs=> .fh []
 out:=fun bg cs=>match bg,cs with
  |[_,.d (.int _ b),.d (.int _ i)],[.ints _ xs]=>[.ints .i64 (fx xs.length (val xs*2^b.toNat+i.toNat))]
  |_,_=>[]
theorem D7 (Γ:Env) (vq:Γ.mt 118=some je) (bg:List ai) (cs:List BC) (h:sC.pre bg cs):vk Γ RZ R0 bg cs fun d cs'=>d=sC.res bg cs∧cs'=sC.out bg cs:=by
 obtain⟨xs,b,k,rfl,rfl,aj,hlen,aw,af,LN⟩:=h
 obtain⟨p,a1⟩:∃p:Nat,p=2^b:=⟨_,rfl⟩
 have kH:p≤4:=by
  have:2^b≤2^2:=Nat.pow_le_pow_right (by decide) aw
  omega
 rw[←a1]at LN
 simp (maxSteps:=2000000) only[↓al,ak,↓reduceIte,reduceCtorEq,Nat.reduceEqDiff,Nat.reduceLeDiff,Nat.reduceSub,Nat.reduceAdd,Int.reduceToNat,Nat.reducePow,Int.reducePow,Int.reduceLE,Int.reduceLT,IntKind.bits,b0,Nat.reduceBneDiff,Nat.reduceBeqDiff,Nat.reduceLT,List.flatMap_cons,List.flatMap_nil,List.append_nil,List.nil_append,List.cons_append,List.filter_cons,List.filter_nil,List.contains_cons,List.contains_nil,bne_self_eq_false,beq_self_eq_true,List.map_cons,List.map_nil,RZ,R0,sC,Int.toNat_natCast,←a1]
 refine fp (fun s=>∃(gj:List Int) (c i:Nat),s.ag 0= .own 1000000 0 xs.length∧s.ag 1= .d (.int .i64 b)∧s.ag 6= .box 6 0∧s.az 6=some ⟨false,false,.cells [.d (.int .i64 c)]⟩∧s.ag 10= .d (.int .i64 xs.length)∧s.ag 11= .d (.int .i64 i)∧
  s.az 1000000=some ⟨false,true,.ints .i64 gj⟩∧ca gj∧gj.length=xs.length∧i≤xs.length∧c<16777216∧(∀j,i≤j→gj.getD j 0=xs.getD j 0)∧val (gj.take i)+16777216^i*c=val (xs.take i)*p+k)
  (fun s=>match s.ag 11 with| .d (.int _ n)=>xs.length - n.toNat|_=>0) ?_ ?_
 ·refine⟨xs,k,0,?_⟩
  simp (maxSteps:=2000000) only[↓al,ak,↓reduceIte,reduceCtorEq,Nat.reduceEqDiff,Nat.reduceLeDiff,Nat.reduceSub,Nat.reduceAdd,Int.reduceToNat,Nat.reducePow,Int.reducePow,Int.reduceLE,Int.reduceLT,IntKind.bits,b0,Nat.reduceBneDiff,Nat.reduceBeqDiff,Nat.reduceLT,List.flatMap_cons,List.flatMap_nil,List.append_nil,List.nil_append,List.cons_append,List.filter_cons,List.filter_nil,List.contains_cons,List.contains_nil,bne_self_eq_false,beq_self_eq_true,List.map_cons,List.map_nil,true_and]
  (repeat' apply And.intro)<;>first|with_reducible rfl|omega|(simp only[List.length_append,List.length_cons,List.length_nil,List.length_set,List.length_replicate];omega)|(simp only[aO];omega)|(simp only[List.length_set];done)|(rw[Int.toNat_of_nonneg (by omega)];done)|exact aj|exact(fun _ _=>rfl)|exact(by simp[val])
 ·rintro s ⟨gj,c,i,h0,h1,aN,a8,bI,cB,j5,aJ,iq,hi,au,qT,aC⟩
  by_cases ci:(i:Int)<xs.length
  ·have a4:i<xs.length:=by omega
   have rz:=aj.getD i
   have bh:=qT i (Nat.le_refl _)
   have bc:b≤64:=by omega
   have x0:xs.getD i 0*2^b=(((xs.getD i 0).toNat*p:Nat):Int):=by rw[Int.natCast_mul,Int.toNat_of_nonneg rz.1,a1,Int.natCast_pow];rfl
   have ye:(xs.getD i 0).toNat*p≤16777215*4:=Nat.mul_le_mul (by omega) kH
   have fj:=akQ (out:=gj) (p:=p) (by omega) (xs.getD i 0).toNat aC
   have cf:val (xs.take (i+1))*p+k=val (xs.take i)*p+k+16777216^i*((xs.getD i 0).toNat*p):=by
    rw[Gm,Nat.add_mul,Nat.mul_assoc];omega
   rw[←cf]at fj
   simp (maxSteps:=2000000) only[↓al,ak,↓reduceIte,reduceCtorEq,Nat.reduceEqDiff,Nat.reduceLeDiff,Nat.reduceSub,Nat.reduceAdd,Int.reduceToNat,Nat.reducePow,Int.reducePow,Int.reduceLE,Int.reduceLT,IntKind.bits,b0,Nat.reduceBneDiff,Nat.reduceBeqDiff,Nat.reduceLT,List.flatMap_cons,List.flatMap_nil,List.append_nil,List.nil_append,List.cons_append,List.filter_cons,List.filter_nil,List.contains_cons,List.contains_nil,bne_self_eq_false,beq_self_eq_true,List.map_cons,List.map_nil,h0,h1,aN,a8,bI,cB,j5,ci,a4,bc,iq,bh,x0,vq,je,Int.toNat_natCast,List.length_set]
   generalize (xs.getD i 0).toNat*p=X at*
   repeat (refine And.intro (by first|omega|(simp only[aO];omega)|(simp only[aO]at*;omega)|(simp only[List.length_append,List.length_cons,List.length_nil,List.length_set,b4];omega)) ?_)
   refine⟨⟨_,_,rfl,rfl,by omega⟩,?_⟩
   repeat (refine And.intro (by first|omega|(simp only[aO];omega)|(simp only[aO]at*;omega)|(simp only[List.length_append,List.length_cons,List.length_nil,List.length_set,b4];omega)) ?_)
   refine⟨⟨gj.set i (((X:Int)+c) % 16777216),(((X:Int)+c) / 16777216).toNat,i+1,?_⟩,by omega⟩
   (repeat' apply And.intro)<;>first|with_reducible rfl|omega|(simp only[List.length_append,List.length_cons,List.length_nil,List.length_set,List.length_replicate];omega)|(simp only[aO];omega)|(simp only[List.length_set];done)|(rw[Int.toNat_of_nonneg (by omega)];done)|exact aJ.set _ (by omega) (by omega)|exact(fun j aH=>by rw[wu (by omega)];exact qT j (by omega))|exact fj
  ·simp (maxSteps:=2000000) only[↓al,ak,↓reduceIte,reduceCtorEq,Nat.reduceEqDiff,Nat.reduceLeDiff,Nat.reduceSub,Nat.reduceAdd,Int.reduceToNat,Nat.reducePow,Int.reducePow,Int.reduceLE,Int.reduceLT,IntKind.bits,b0,Nat.reduceBneDiff,Nat.reduceBeqDiff,Nat.reduceLT,List.flatMap_cons,List.flatMap_nil,List.append_nil,List.nil_append,List.cons_append,List.filter_cons,List.filter_nil,List.contains_cons,List.contains_nil,bne_self_eq_false,beq_self_eq_true,List.map_cons,List.map_nil,h0,h1,aN,a8,bI,cB,j5,ci]
   have:i=xs.length:=by omega
   subst this
   rw[List.take_of_length_le (by omega),List.take_length]at aC
   have:=carry_zero aC LN
   rw[←this.2,←iq,Px aJ]
def q1:hg where
 pre:=fun bg cs=>∃(xs aB:List Int),bg=[.own b0 0 xs.length,.own (b0+1) 0 aB.length]∧cs=[.ints .i64 xs,.ints .i64 aB]∧ca xs∧ca aB∧xs.length≤100000∧aB.length=xs.length
 res:=fun bg cs=>match cs with
  |[.ints _ xs,.ints _ aB]=> .bool (decide (val aB≤val xs))
  |_=> .nilp
 out:=fun bg cs=>match cs with
  |[.ints _ xs,.ints _ aB]=>[.ints .i64 (if val aB≤val xs then fx xs.length (val xs - val aB)else xs),.ints .i64 aB]
  |_=>[]
theorem D8 (Γ:Env) (vq:Γ.mt 118=some je) (f146:Γ.fn 146=some tM) (ad5:Γ.mt 146=none) (f145:Γ.fn 145=some tO) (ad6:Γ.mt 145=none)
 (bg:List ai) (cs:List BC) (h:q1.pre bg cs):vk Γ Mb Mc bg cs fun d cs'=>d=q1.res bg cs∧cs'=q1.out bg cs:=by
 obtain⟨xs,aB,rfl,rfl,aj,hy,hlen,z2⟩:=h
 have ad7:=ZN xs.length rfl z2 aj hy
 have ex:xs.reverse.take xs.length=xs.reverse:=List.take_of_length_le (by simp)
 have afY:aB.take xs.length=aB:=List.take_of_length_le (by omega)
 have An:aB.reverse.take aB.length=aB.reverse:=List.take_of_length_le (by simp)
 have afZ:aB.reverse.take xs.length=aB.reverse:=List.take_of_length_le (by simp[z2])
 by_cases JJ:val aB≤val xs
 ·have bR:¬tN xs.reverse aB.reverse<0:=by
   rw[ad7];unfold fW
   rw[if_neg (by omega)];split<;>decide
  simp (maxSteps:=2000000) only[↓al,ak,↓reduceIte,reduceCtorEq,Nat.reduceEqDiff,Nat.reduceLeDiff,Nat.reduceSub,Nat.reduceAdd,Int.reduceToNat,Nat.reducePow,Int.reducePow,Int.reduceLE,Int.reduceLT,IntKind.bits,b0,Nat.reduceBneDiff,Nat.reduceBeqDiff,Nat.reduceLT,List.flatMap_cons,List.flatMap_nil,List.append_nil,List.nil_append,List.cons_append,List.filter_cons,List.filter_nil,List.contains_cons,List.contains_nil,bne_self_eq_false,beq_self_eq_true,List.map_cons,List.map_nil,Mb,Mc,q1,f146,ad5,tM,f145,ad6,tO,JJ,List.length_reverse,List.take_length,afY,z2,ex,An,afZ,bR]
  refine⟨⟨xs,rfl,hlen⟩,⟨aB,rfl,by omega⟩,⟨xs.reverse,aB.reverse,rfl,by simpa using hlen,by simpa using z2⟩,?_⟩
  refine bZ (fun s=>∃gj:List Int,s.az 1000000=some ⟨false,true,.ints .i64 gj⟩∧s.az 1000001=some ⟨false,true,.ints .i64 aB⟩∧gj=fx xs.length (val xs - val aB)) ?_ ?_
  ·simp (maxSteps:=2000000) only[↓al,ak,↓reduceIte,reduceCtorEq,Nat.reduceEqDiff,Nat.reduceLeDiff,Nat.reduceSub,Nat.reduceAdd,Int.reduceToNat,Nat.reducePow,Int.reducePow,Int.reduceLE,Int.reduceLT,IntKind.bits,b0,Nat.reduceBneDiff,Nat.reduceBeqDiff,Nat.reduceLT,List.flatMap_cons,List.flatMap_nil,List.append_nil,List.nil_append,List.cons_append,List.filter_cons,List.filter_nil,List.contains_cons,List.contains_nil,bne_self_eq_false,beq_self_eq_true,List.map_cons,List.map_nil,true_and]
   refine fp (fun s=>∃(gj:List Int) (c:Int) (i:Nat),s.ag 0= .own 1000000 0 xs.length∧s.ag 1= .own 1000001 0 xs.length∧s.ag 5= .box 5 0∧s.az 5=some ⟨false,false,.cells [.d (.int .i64 c)]⟩∧s.ag 14= .d (.int .i64 xs.length)∧s.ag 15= .d (.int .i64 i)∧
    s.az 1000000=some ⟨false,true,.ints .i64 gj⟩∧s.az 1000001=some ⟨false,true,.ints .i64 aB⟩∧ca gj∧gj.length=xs.length∧i≤xs.length∧-1≤c∧c≤0∧(∀j,i≤j→gj.getD j 0=xs.getD j 0)∧(val (gj.take i):Int)+16777216^i*c=val (xs.take i)+(-1)*val (aB.take i))
    (fun s=>match s.ag 15 with| .d (.int _ n)=>xs.length - n.toNat|_=>0) ?_ ?_
   ·refine⟨xs,0,0,?_⟩
    simp (maxSteps:=2000000) only[↓al,ak,↓reduceIte,reduceCtorEq,Nat.reduceEqDiff,Nat.reduceLeDiff,Nat.reduceSub,Nat.reduceAdd,Int.reduceToNat,Nat.reducePow,Int.reducePow,Int.reduceLE,Int.reduceLT,IntKind.bits,b0,Nat.reduceBneDiff,Nat.reduceBeqDiff,Nat.reduceLT,List.flatMap_cons,List.flatMap_nil,List.append_nil,List.nil_append,List.cons_append,List.filter_cons,List.filter_nil,List.contains_cons,List.contains_nil,bne_self_eq_false,beq_self_eq_true,List.map_cons,List.map_nil,z2]
    (repeat' apply And.intro)<;>first|with_reducible rfl|omega|(simp only[List.length_append,List.length_cons,List.length_nil,List.length_set,List.length_replicate];omega)|(simp only[aO];omega)|(simp only[List.length_set];done)|(rw[Int.toNat_of_nonneg (by omega)];done)|exact aj|exact(fun _ _=>rfl)|exact(by simp[val])
   ·rintro s ⟨gj,c,i,h0,h1,aF,bm,dz,hq,j5,yg,aJ,iq,hi,dL,au,qT,aC⟩
    by_cases ci:(i:Int)<xs.length
    ·have a4:i<xs.length:=by omega
     have bc:(i:Int)<aB.length:=by omega
     have c8:i<aB.length:=by omega
     have rz:=aj.getD i
     have afW:=hy.getD i
     have bh:=qT i (Nat.le_refl _)
     have fj:=OU (out:=gj) (i:=i) (c:=c) (t:= -1) (s:=xs.getD i 0 - aB.getD i 0+c) (by omega) aj hy (by omega) aC
     simp (maxSteps:=2000000) only[↓al,ak,↓reduceIte,reduceCtorEq,Nat.reduceEqDiff,Nat.reduceLeDiff,Nat.reduceSub,Nat.reduceAdd,Int.reduceToNat,Nat.reducePow,Int.reducePow,Int.reduceLE,Int.reduceLT,IntKind.bits,b0,Nat.reduceBneDiff,Nat.reduceBeqDiff,Nat.reduceLT,List.flatMap_cons,List.flatMap_nil,List.append_nil,List.nil_append,List.cons_append,List.filter_cons,List.filter_nil,List.contains_cons,List.contains_nil,bne_self_eq_false,beq_self_eq_true,List.map_cons,List.map_nil,h0,h1,aF,bm,dz,hq,j5,yg,ci,a4,bc,c8,iq,bh,vq,je,Int.toNat_natCast,List.length_set]
     repeat (refine And.intro (by first|omega|(simp only[aO];omega)|(simp only[aO]at*;omega)|(simp only[List.length_append,List.length_cons,List.length_nil,List.length_set,b4];omega)) ?_)
     refine⟨⟨_,_,rfl,rfl,by omega⟩,?_⟩
     repeat (refine And.intro (by first|omega|(simp only[aO];omega)|(simp only[aO]at*;omega)|(simp only[List.length_append,List.length_cons,List.length_nil,List.length_set,b4];omega)) ?_)
     refine⟨⟨gj.set i ((xs.getD i 0 - aB.getD i 0+c) % 16777216),(xs.getD i 0 - aB.getD i 0+c) / 16777216,i+1,?_⟩,by omega⟩
     (repeat' apply And.intro)<;>first|with_reducible rfl|omega|(simp only[List.length_append,List.length_cons,List.length_nil,List.length_set,List.length_replicate];omega)|(simp only[aO];omega)|(simp only[List.length_set];done)|(rw[Int.toNat_of_nonneg (by omega)];done)|exact aJ.set _ (by omega) (by omega)|exact(fun j aH=>by rw[wu (by omega)];exact qT j (by omega))|exact fj
    ·simp (maxSteps:=2000000) only[↓al,ak,↓reduceIte,reduceCtorEq,Nat.reduceEqDiff,Nat.reduceLeDiff,Nat.reduceSub,Nat.reduceAdd,Int.reduceToNat,Nat.reducePow,Int.reducePow,Int.reduceLE,Int.reduceLT,IntKind.bits,b0,Nat.reduceBneDiff,Nat.reduceBeqDiff,Nat.reduceLT,List.flatMap_cons,List.flatMap_nil,List.append_nil,List.nil_append,List.cons_append,List.filter_cons,List.filter_nil,List.contains_cons,List.contains_nil,bne_self_eq_false,beq_self_eq_true,List.map_cons,List.map_nil,h0,h1,aF,bm,dz,hq,j5,yg,ci]
     have:i=xs.length:=by omega
     subst this
     rw[List.take_of_length_le (by omega),List.take_length,List.take_of_length_le (by omega)]at aC
     have jj:=kb aJ
     rw[iq]at jj
     have aoR:=kb aj
     have:=Pc (T:=val xs - val aB) (c:=c) (n:=xs.length) (v:=val gj) (by rw[aC];omega) jj (by omega) (by omega)
     exact⟨gj,rfl,aaR aJ iq this.2⟩
  ·rintro s ⟨gj,j5,yg,S5⟩
   simp (maxSteps:=2000000) only[↓al,ak,↓reduceIte,reduceCtorEq,Nat.reduceEqDiff,Nat.reduceLeDiff,Nat.reduceSub,Nat.reduceAdd,Int.reduceToNat,Nat.reducePow,Int.reducePow,Int.reduceLE,Int.reduceLT,IntKind.bits,b0,Nat.reduceBneDiff,Nat.reduceBeqDiff,Nat.reduceLT,List.flatMap_cons,List.flatMap_nil,List.append_nil,List.nil_append,List.cons_append,List.filter_cons,List.filter_nil,List.contains_cons,List.contains_nil,bne_self_eq_false,beq_self_eq_true,List.map_cons,List.map_nil,j5,yg,S5]
 ·have bR:tN xs.reverse aB.reverse<0:=by
   rw[ad7];unfold fW
   rw[if_pos (by omega)];decide
  simp (maxSteps:=2000000) only[↓al,ak,↓reduceIte,reduceCtorEq,Nat.reduceEqDiff,Nat.reduceLeDiff,Nat.reduceSub,Nat.reduceAdd,Int.reduceToNat,Nat.reducePow,Int.reducePow,Int.reduceLE,Int.reduceLT,IntKind.bits,b0,Nat.reduceBneDiff,Nat.reduceBeqDiff,Nat.reduceLT,List.flatMap_cons,List.flatMap_nil,List.append_nil,List.nil_append,List.cons_append,List.filter_cons,List.filter_nil,List.contains_cons,List.contains_nil,bne_self_eq_false,beq_self_eq_true,List.map_cons,List.map_nil,Mb,Mc,q1,f146,ad5,tM,f145,ad6,tO,JJ,List.length_reverse,List.take_length,afY,z2,ex,An,afZ,bR]
  exact⟨⟨xs,rfl,hlen⟩,⟨aB,rfl,by omega⟩,⟨xs.reverse,aB.reverse,rfl,by simpa using hlen,by simpa using z2⟩⟩
end RV.Dr
