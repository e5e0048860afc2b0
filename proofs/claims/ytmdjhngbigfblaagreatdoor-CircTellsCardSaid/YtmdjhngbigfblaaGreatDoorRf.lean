/- Lemmas for a claim: an abstract machine for the translated code, proved sound, and contracts of functions. By an AI agent. -/
import Derived.Test.YtmdjhngbigfblaaGreatDoorRb
import Derived.Test.YtmdjhngbigfblaaGreatDoorRd
import Derived.Test.YtmdjhngbigfblaaGreatDoorRc
set_option linter.all false
namespace RV
open Go
def Env.none:Env:=⟨fun _=>Option.none,fun _=>Option.none⟩
def Env.add (Γ:Env) (f:Nat) (C:bq):Env:=⟨fun g=>if g=f then some C else Γ.fn g,Γ.mt⟩
def Env.ik (Γ:Env) (f:Nat) (C:fL):Env:=⟨Γ.fn,fun g=>if g=f then some C else Γ.mt g⟩
theorem aO.none (P:Program) (B:Mem):aO P B Env.none:=⟨(fun f C h=>by cases h),(fun f C h=>by cases h)⟩
theorem aO.add {P:Program} {B:Mem} {Γ:Env} (h:aO P B Γ) {f:Nat} {C:bq} (hf:my P B f C):aO P B (Γ.add f C):=by
 refine⟨fun g D bb=> ?_,h.2⟩
 simp only[Env.add]at bb
 split at bb
 ·rename_i e;subst e;simp only[Option.some.injEq]at bb;subst bb;exact hf
 ·exact h.1 g D bb
theorem aO.ik {P:Program} {B:Mem} {Γ:Env} (h:aO P B Γ) {f:Nat} {C:fL} (hf:Ch P B f C):aO P B (Γ.ik f C):=by
 refine⟨h.1,fun g D bb=> ?_⟩
 simp only[Env.ik]at bb
 split at bb
 ·rename_i e;subst e;simp only[Option.some.injEq]at bb;subst bb;exact hf
 ·exact h.2 g D bb
def bq.below (C:bq) (dN:List D→Nat) (n:Nat):bq:=⟨fun ds=>C.pre ds∧dN ds<n,C.res,C.own⟩
end RV
namespace RV.Dr
open Go RV
set_option linter.unusedSimpArgs false
set_option maxRecDepth 100000
set_option maxHeartbeats 4000000
def a7 (n:Nat):D:= .ints .i64 (ai n)
theorem R1 (n:Nat):a7 n= .ints .i64 (ai n):=rfl
theorem aj:type_of% (And.intro Uu<|And.intro Uv<|And.intro Uw<|And.intro R1<|And.intro @decide_true @decide_false):=And.intro Uu<|And.intro Uv<|And.intro Uw<|And.intro R1<|And.intro @decide_true @decide_false
def il:bq where
 pre:=fun ds=>∃xs:List Int,ds=[.ints .i64 xs]∧bQ xs∧xs.length≤100000
 res:=fun ds=>match ds with
  |[.ints _ xs]=>a7 (val xs)
  |_=> .nilp
theorem ae1 (Γ:Env) (ds:List D) (h:il.pre ds):bH Γ GW GX ds fun d=>d=il.res ds:=by
 obtain⟨xs,rfl,SK,aB⟩:=h
 simp (maxSteps:=2000000) only[↓ak,aj,↓reduceIte,reduceCtorEq,Nat.reduceEqDiff,Nat.reduceLeDiff,Nat.reduceSub,Nat.reduceAdd,Int.reduceToNat,Nat.reducePow,Int.reducePow,Int.reduceLE,Int.reduceLT,IntKind.bits,GW,GX,il]
 refine cc (fun s=>∃n:Nat,n≤xs.length∧s.af 0= .d (.ints .i64 xs)∧s.af 3= .d (.int .i64 n)∧xs.take n=ai (val xs)) ?_ ?_
 ·refine EP (fun s=>∃n:Nat,n≤xs.length∧s.af 0= .d (.ints .i64 xs)∧s.af 3= .d (.int .i64 n)∧val (xs.take n)=val xs) (fun s=>match s.af 3 with| .d (.int _ n)=>n.toNat|_=>0) ?_ ?_
  ·refine⟨xs.length,Nat.le_refl _,?_⟩
   simp (maxSteps:=2000000) only[↓ak,aj,↓reduceIte,reduceCtorEq,Nat.reduceEqDiff,Nat.reduceLeDiff,Nat.reduceSub,Nat.reduceAdd,Int.reduceToNat,Nat.reducePow,Int.reducePow,Int.reduceLE,Int.reduceLT,IntKind.bits,List.take_length]
  ·rintro s ⟨n,h1,h2,al,aE⟩
   by_cases aH:(n:Int)>0
   ·simp (maxSteps:=2000000) only[↓ak,aj,↓reduceIte,reduceCtorEq,Nat.reduceEqDiff,Nat.reduceLeDiff,Nat.reduceSub,Nat.reduceAdd,Int.reduceToNat,Nat.reducePow,Int.reducePow,Int.reduceLE,Int.reduceLT,IntKind.bits,h2,al,aH]
    rw[show ((n:Int) - 1).toNat=n - 1 by omega]
    refine⟨by simp only[aG];omega,by omega,by omega,?_⟩
    split
    ·rename_i h0
     refine⟨by simp only[aG];omega,⟨n - 1,by omega,by omega,?_⟩,by omega⟩
     have:=LH (xs:=xs) (n:=n - 1) (by omega) (by simpa using h0)
     rw[show n - 1+1=n by omega]at this
     rw[←this];exact aE
    ·rename_i h0
     exact⟨n,h1,rfl,zV SK aE (.inr ⟨h1,by simpa using h0⟩)⟩
   ·simp (maxSteps:=2000000) only[↓ak,aj,↓reduceIte,reduceCtorEq,Nat.reduceEqDiff,Nat.reduceLeDiff,Nat.reduceSub,Nat.reduceAdd,Int.reduceToNat,Nat.reducePow,Int.reducePow,Int.reduceLE,Int.reduceLT,IntKind.bits,h2,al,aH]
    exact⟨n,h1,rfl,zV SK aE (.inl (by omega))⟩
 ·rintro s ⟨n,h1,h2,al,aE⟩
  simp (maxSteps:=2000000) only[↓ak,aj,↓reduceIte,reduceCtorEq,Nat.reduceEqDiff,Nat.reduceLeDiff,Nat.reduceSub,Nat.reduceAdd,Int.reduceToNat,Nat.reducePow,Int.reducePow,Int.reduceLE,Int.reduceLT,IntKind.bits,h2,al,a7]
  refine⟨by omega,by omega,by simp only[List.length_take,bL];omega,?_⟩
  rw[List.take_of_length_le (Nat.le_refl _),aE]
def nK:bq where
 pre:=fun ds=>∃(xs:List Int) (i:Nat),ds=[.ints .i64 xs,.int .i64 i]
 res:=fun ds=>match ds with
  |[.ints _ xs,.int _ i]=> .int .i64 (xs.getD i.toNat 0)
  |_=> .nilp
theorem ae2 (Γ:Env) (ds:List D) (h:nK.pre ds):bH Γ GY GZ ds fun d=>d=nK.res ds:=by
 obtain⟨xs,i,rfl⟩:=h
 simp (maxSteps:=2000000) only[↓ak,aj,↓reduceIte,reduceCtorEq,Nat.reduceEqDiff,Nat.reduceLeDiff,Nat.reduceSub,Nat.reduceAdd,Int.reduceToNat,Nat.reducePow,Int.reducePow,Int.reduceLE,Int.reduceLT,IntKind.bits,GY,GZ,nK]
 split
 ·omega
 ·rw[List.getD_eq_getElem?_getD,List.getElem?_eq_none (by omega)];rfl
def hx:bq where
 pre:=fun ds=>∃xs ax:List Int,ds=[.ints .i64 xs,.ints .i64 ax]∧bQ xs∧bQ ax∧xs.length≤10000∧ax.length≤10000
 res:=fun ds=>match ds with
  |[.ints _ xs,.ints _ ax]=>a7 (val xs+val ax)
  |_=> .nilp
theorem aho (Γ:Env) (f124:Γ.fn 124=some il) (kP:Γ.mt 124=none) (f125:Γ.fn 125=some nK) (vq:Γ.mt 125=none) (ds:List D) (h:hx.pre ds):bH Γ JX JY ds fun d=>d=hx.res ds:=by
 obtain⟨xs,ax,rfl,ah,hy,cP,ga⟩:=h
 simp (maxSteps:=2000000) only[↓ak,aj,↓reduceIte,reduceCtorEq,Nat.reduceEqDiff,Nat.reduceLeDiff,Nat.reduceSub,Nat.reduceAdd,Int.reduceToNat,Nat.reducePow,Int.reducePow,Int.reduceLE,Int.reduceLT,IntKind.bits,JX,JY,hx]
 refine cc (fun s=>∃out:List Int,s.af 5= .own 5 0 out.length∧s.aw 5=some ⟨false,false,.ints .i64 out⟩∧bQ out∧out.length≤20000∧val out=val xs+val ax) ?_ ?_
 ·simp (maxSteps:=2000000) only[↓ak,aj,↓reduceIte,reduceCtorEq,Nat.reduceEqDiff,Nat.reduceLeDiff,Nat.reduceSub,Nat.reduceAdd,Int.reduceToNat,Nat.reducePow,Int.reducePow,Int.reduceLE,Int.reduceLT,IntKind.bits]
  refine eC (fun s=>∃(out:List Int) (c:Nat),s.af 0= .d (.ints .i64 xs)∧s.af 1= .d (.ints .i64 ax)∧s.af 5= .own 5 0 out.length∧s.aw 5=some ⟨false,false,.ints .i64 out⟩∧s.af 6= .d (.int .i64 c)∧s.af 7= .d (.int .i64 out.length)∧
   bQ out∧out.length≤max xs.length ax.length+1∧(out.length=max xs.length ax.length+1→c=0)∧c≤1∧val out+16777216^out.length*(c+val (xs.drop out.length)+val (ax.drop out.length))=val xs+val ax)
   (fun s=>match s.af 7,s.af 6 with| .d (.int _ n),.d (.int _ c)=>2*(max xs.length ax.length+1 - n.toNat)+c.toNat|_,_=>0) ?_ ?_
  ·refine⟨[],0,?_⟩
   simp (maxSteps:=2000000) only[↓ak,aj,↓reduceIte,reduceCtorEq,Nat.reduceEqDiff,Nat.reduceLeDiff,Nat.reduceSub,Nat.reduceAdd,Int.reduceToNat,Nat.reducePow,Int.reducePow,Int.reduceLE,Int.reduceLT,IntKind.bits]
   exact⟨rfl,rfl,(fun x ah=>by cases ah),by simp[val]⟩
  ·rintro s ⟨out,c,h0,h1,aI,a9,aM,a4,aB,bh,hr,ao,aA⟩
   by_cases hd:(out.length:Int)<xs.length<;>by_cases iW:(out.length:Int)<ax.length<;>by_cases qu:(c:Int)>0<;>
    simp (maxSteps:=2000000) only[↓ak,aj,↓reduceIte,reduceCtorEq,Nat.reduceEqDiff,Nat.reduceLeDiff,Nat.reduceSub,Nat.reduceAdd,Int.reduceToNat,Nat.reducePow,Int.reducePow,Int.reduceLE,Int.reduceLT,IntKind.bits,h0,h1,aI,a9,aM,a4,f125,vq,nK,hd,iW,qu,decide_true,decide_false]
   all_goals
    have ez:=ah.getD out.length
    have iu:=hy.getD out.length
    have se:∀l:List Int,¬((out.length:Int)<l.length)→l.getD out.length 0=0∧val (l.drop out.length)=0:=fun l h=>by
     rw[List.drop_of_length_le (by omega),List.getD_eq_getElem?_getD,List.getElem?_eq_none (by omega)];exact⟨rfl,rfl⟩
    first
     |(refine⟨out,rfl,rfl,aB,by omega,?_⟩
       have a1:=(se xs hd).2
       have a6:=(se ax iW).2
       have cU:c=0:=by omega
       rw[a1,a6,cU]at aA
       simpa using aA)
     |(have yJ:0≤xs.getD out.length 0+ax.getD out.length 0+(c:Int):=by omega
       have er:=Mx (out:=out) (r':=val (xs.drop (out.length+1))+val (ax.drop (out.length+1))) yJ aA (by rw[lk xs out.length,lk ax out.length];omega)
       have iv:(xs.getD out.length 0+ax.getD out.length 0+(c:Int)).tdiv 16777216=(xs.getD out.length 0+ax.getD out.length 0+(c:Int)) / 16777216:=Int.tdiv_eq_ediv_of_nonneg yJ
       have hq:(xs.getD out.length 0+ax.getD out.length 0+(c:Int)).tmod 16777216=(xs.getD out.length 0+ax.getD out.length 0+(c:Int)) % 16777216:=Int.tmod_eq_emod_of_nonneg yJ
       have aZ:((xs.getD out.length 0+ax.getD out.length 0+(c:Int)).tdiv 16777216).toNat≤1:=by rw[iv];omega
       refine⟨⟨xs,out.length,rfl⟩,⟨ax,out.length,rfl⟩,by simp only[aG];omega,by simp only[aG];omega,by omega,by simp only[List.length_append,List.length_cons,List.length_nil,bL];omega,by omega,by rw[iv];simp only[aG];omega,by simp only[aG];omega,
        ⟨out++[(xs.getD out.length 0+ax.getD out.length 0+(c:Int)).tmod 16777216],((xs.getD out.length 0+ax.getD out.length 0+(c:Int)).tdiv 16777216).toNat,rfl,rfl,by rw[iv];omega,by simp,?_,?_,?_,aZ,?_⟩,?_⟩
       ·exact aB.snoc (by rw[hq];omega) (by rw[hq];omega)
       ·simp only[List.length_append,List.length_cons,List.length_nil];omega
       ·simp only[List.length_append,List.length_cons,List.length_nil]
        intro hlen
        have a1:=(se xs (by omega)).1
        have a6:=(se ax (by omega)).1
        rw[a1,a6]at iv⊢
        rw[iv];omega
       ·simpa [Nat.add_assoc]using er
       ·omega)
 ·rintro s ⟨out,aI,a9,aB,bh,aA⟩
  simp (maxSteps:=2000000) only[↓ak,aj,↓reduceIte,reduceCtorEq,Nat.reduceEqDiff,Nat.reduceLeDiff,Nat.reduceSub,Nat.reduceAdd,Int.reduceToNat,Nat.reducePow,Int.reducePow,Int.reduceLE,Int.reduceLT,IntKind.bits,aI,a9,f124,kP,il]
  rw[List.take_length]
  exact⟨⟨out,rfl,aB,by omega⟩,by rw[aA]⟩
def km:bq where
 pre:=fun ds=>∃xs ax:List Int,ds=[.ints .i64 xs,.ints .i64 ax]∧xs.length≤100000
 res:=fun ds=>match ds with
  |[.ints _ xs,.ints _ ax]=> .bool (decide (xs=ax))
  |_=> .nilp
theorem ahp (Γ:Env) (ds:List D) (h:km.pre ds):bH Γ vK CH ds fun d=>d=km.res ds:=by
 obtain⟨xs,ax,rfl,cP⟩:=h
 by_cases aB:(xs.length:Int)=ax.length
 ·have ar:((xs.length:Int) !=ax.length)=false:=by simpa using aB
  simp (maxSteps:=2000000) only[↓ak,aj,↓reduceIte,reduceCtorEq,Nat.reduceEqDiff,Nat.reduceLeDiff,Nat.reduceSub,Nat.reduceAdd,Int.reduceToNat,Nat.reducePow,Int.reducePow,Int.reduceLE,Int.reduceLT,IntKind.bits,vK,CH,km,ar]
  refine cc (fun s=>xs=ax) ?_ ?_
  ·simp (maxSteps:=2000000) only[↓ak,aj,↓reduceIte,reduceCtorEq,Nat.reduceEqDiff,Nat.reduceLeDiff,Nat.reduceSub,Nat.reduceAdd,Int.reduceToNat,Nat.reducePow,Int.reducePow,Int.reduceLE,Int.reduceLT,IntKind.bits,vK]
   refine eC (fun s=>∃n:Nat,s.af 0= .d (.ints .i64 xs)∧s.af 1= .d (.ints .i64 ax)∧s.af 5= .d (.int .i64 n)∧n≤xs.length∧xs.take n=ax.take n) (fun s=>match s.af 5 with| .d (.int _ n)=>xs.length - n.toNat|_=>0) ?_ ?_
   ·refine⟨0,?_⟩
    simp (maxSteps:=2000000) only[↓ak,aj,↓reduceIte,reduceCtorEq,Nat.reduceEqDiff,Nat.reduceLeDiff,Nat.reduceSub,Nat.reduceAdd,Int.reduceToNat,Nat.reducePow,Int.reducePow,Int.reduceLE,Int.reduceLT,IntKind.bits,vK]
    exact⟨rfl,Nat.zero_le _⟩
   ·rintro s ⟨n,h0,h1,aI,aH,ae⟩
    by_cases ao:(n:Int)<xs.length
    ·simp (maxSteps:=2000000) only[↓ak,aj,↓reduceIte,reduceCtorEq,Nat.reduceEqDiff,Nat.reduceLeDiff,Nat.reduceSub,Nat.reduceAdd,Int.reduceToNat,Nat.reducePow,Int.reducePow,Int.reduceLE,Int.reduceLT,IntKind.bits,h0,h1,aI,ao]
     refine⟨by omega,by omega,by omega,?_⟩
     have hy:n<ax.length:=by omega
     have ah:n<xs.length:=by omega
     have ex:xs.getD n 0=xs[n]:=by rw[List.getD_eq_getElem?_getD,List.getElem?_eq_getElem ah];rfl
     have sf:ax.getD n 0=ax[n]:=by rw[List.getD_eq_getElem?_getD,List.getElem?_eq_getElem hy];rfl
     split
     ·rename_i dX
      have:xs≠ax:=fun e=>by subst e;simp at dX
      simp[this]
     ·rename_i heq
      refine⟨by simp only[aG];omega,⟨n+1,by omega,by omega,?_⟩,by omega⟩
      rw[List.take_add_one,List.take_add_one,ae,List.getElem?_eq_getElem ah,List.getElem?_eq_getElem hy]
      rw[ex,sf]at heq
      have:xs[n]=ax[n]:=by simpa using heq
      rw[this]
    ·simp (maxSteps:=2000000) only[↓ak,aj,↓reduceIte,reduceCtorEq,Nat.reduceEqDiff,Nat.reduceLeDiff,Nat.reduceSub,Nat.reduceAdd,Int.reduceToNat,Nat.reducePow,Int.reducePow,Int.reduceLE,Int.reduceLT,IntKind.bits,h0,h1,aI,ao]
     rw[List.take_of_length_le (by omega),List.take_of_length_le (by omega)]at ae
     exact ae
  ·intro s ay
   simp (maxSteps:=2000000) only[↓ak,aj,↓reduceIte,reduceCtorEq,Nat.reduceEqDiff,Nat.reduceLeDiff,Nat.reduceSub,Nat.reduceAdd,Int.reduceToNat,Nat.reducePow,Int.reducePow,Int.reduceLE,Int.reduceLT,IntKind.bits,ay]
 ·have ar:((xs.length:Int) !=ax.length)=true:=by simpa using aB
  simp (maxSteps:=2000000) only[↓ak,aj,↓reduceIte,reduceCtorEq,Nat.reduceEqDiff,Nat.reduceLeDiff,Nat.reduceSub,Nat.reduceAdd,Int.reduceToNat,Nat.reducePow,Int.reducePow,Int.reduceLE,Int.reduceLT,IntKind.bits,vK,CH,km,ar]
  have:xs≠ax:=fun e=>aB (by rw[e])
  simp[this]
def fh:bq where
 pre:=fun ds=>∃xs ax:List Int,ds=[.ints .i64 xs,.ints .i64 ax]∧(∃a,xs=ai a)∧(∃b,ax=ai b)∧xs.length≤100000∧ax.length≤100000
 res:=fun ds=>match ds with
  |[.ints _ xs,.ints _ ax]=> .int .i64 (if val xs<val ax then -1 else if val ax<val xs then 1 else 0)
  |_=> .nilp
theorem ahq (Γ:Env) (ds:List D) (h:fh.pre ds):bH Γ tL nV ds fun d=>d=fh.res ds:=by
 obtain⟨xs,ax,rfl,⟨a,a2⟩,⟨b,ar⟩,cP,ga⟩:=h
 have Lc:val xs=a:=by rw[a2,bO]
 have Ld:val ax=b:=by rw[ar,bO]
 have ah:bQ xs:=a2▸cN a
 have hy:bQ ax:=ar▸cN b
 by_cases aB:(xs.length:Int)=ax.length
 ·have dX:((xs.length:Int) !=ax.length)=false:=by simpa using aB
  simp (maxSteps:=2000000) only[↓ak,aj,↓reduceIte,reduceCtorEq,Nat.reduceEqDiff,Nat.reduceLeDiff,Nat.reduceSub,Nat.reduceAdd,Int.reduceToNat,Nat.reducePow,Int.reducePow,Int.reduceLE,Int.reduceLT,IntKind.bits,tL,nV,fh,dX]
  refine cc (fun s=>xs=ax) ?_ ?_
  ·simp (maxSteps:=2000000) only[↓ak,aj,↓reduceIte,reduceCtorEq,Nat.reduceEqDiff,Nat.reduceLeDiff,Nat.reduceSub,Nat.reduceAdd,Int.reduceToNat,Nat.reducePow,Int.reducePow,Int.reduceLE,Int.reduceLT,IntKind.bits,tL]
   refine⟨by simp only[aG];omega,?_⟩
   refine eC (fun s=>∃n:Nat,s.af 0= .d (.ints .i64 xs)∧s.af 1= .d (.ints .i64 ax)∧s.af 5= .d (.int .i64 ((n:Int) - 1))∧n≤xs.length∧xs.drop n=ax.drop n) (fun s=>match s.af 5 with| .d (.int _ n)=>(n+1).toNat|_=>0) ?_ ?_
   ·refine⟨xs.length,?_⟩
    simp (maxSteps:=2000000) only[↓ak,aj,↓reduceIte,reduceCtorEq,Nat.reduceEqDiff,Nat.reduceLeDiff,Nat.reduceSub,Nat.reduceAdd,Int.reduceToNat,Nat.reducePow,Int.reducePow,Int.reduceLE,Int.reduceLT,IntKind.bits,tL]
    rw[List.drop_of_length_le (Nat.le_refl _),List.drop_of_length_le (by omega)]
   ·rintro s ⟨n,h0,h1,aI,aH,ae⟩
    by_cases ao:(n:Int) - 1≥0
    ·by_cases bB:xs.getD ((n:Int) - 1).toNat 0<ax.getD ((n:Int) - 1).toNat 0<;>by_cases cu:xs.getD ((n:Int) - 1).toNat 0>ax.getD ((n:Int) - 1).toNat 0<;>
      simp (maxSteps:=2000000) only[↓ak,aj,↓reduceIte,reduceCtorEq,Nat.reduceEqDiff,Nat.reduceLeDiff,Nat.reduceSub,Nat.reduceAdd,Int.reduceToNat,Nat.reducePow,Int.reducePow,Int.reduceLE,Int.reduceLT,IntKind.bits,h0,h1,aI,ao,bB,cu]
     all_goals
      have hz:((n:Int) - 1).toNat=n - 1:=by omega
      rw[hz]at bB cu
      have aC:xs.drop (n - 1+1)=ax.drop (n - 1+1):=by rw[show n - 1+1=n by omega];exact ae
     ·omega
     ·have:=Aa ah hy (i:=n - 1) (by omega) (by omega) aC bB
      refine⟨by omega,by omega,?_⟩
      rw[if_pos this]
     ·have:=Aa hy ah (i:=n - 1) (by omega) (by omega) aC.symm cu
      refine⟨by omega,by omega,by omega,by omega,?_⟩
      rw[if_neg (by omega),if_pos this]
     ·have he:xs.getD (n - 1) 0=ax.getD (n - 1) 0:=by omega
      refine⟨by omega,by omega,by omega,by omega,by simp only[aG];omega,⟨n - 1,by omega,by omega,?_⟩,by omega⟩
      have h1:n - 1<xs.length:=by omega
      have h2:n - 1<ax.length:=by omega
      rw[List.drop_eq_getElem_cons h1,List.drop_eq_getElem_cons h2,aC]
      rw[List.getD_eq_getElem?_getD,List.getElem?_eq_getElem h1,List.getD_eq_getElem?_getD,List.getElem?_eq_getElem h2]at he
      simp only[Option.getD_some]at he
      rw[he]
    ·simp (maxSteps:=2000000) only[↓ak,aj,↓reduceIte,reduceCtorEq,Nat.reduceEqDiff,Nat.reduceLeDiff,Nat.reduceSub,Nat.reduceAdd,Int.reduceToNat,Nat.reducePow,Int.reducePow,Int.reduceLE,Int.reduceLT,IntKind.bits,h0,h1,aI,ao]
     rw[show n=0 by omega]at ae
     exact ae
  ·intro s ay
   simp (maxSteps:=2000000) only[↓ak,aj,↓reduceIte,reduceCtorEq,Nat.reduceEqDiff,Nat.reduceLeDiff,Nat.reduceSub,Nat.reduceAdd,Int.reduceToNat,Nat.reducePow,Int.reducePow,Int.reduceLE,Int.reduceLT,IntKind.bits,ay]
   simp
 ·have dX:((xs.length:Int) !=ax.length)=true:=by simpa using aB
  by_cases bp:(xs.length:Int)<ax.length
  ·simp (maxSteps:=2000000) only[↓ak,aj,↓reduceIte,reduceCtorEq,Nat.reduceEqDiff,Nat.reduceLeDiff,Nat.reduceSub,Nat.reduceAdd,Int.reduceToNat,Nat.reducePow,Int.reducePow,Int.reduceLE,Int.reduceLT,IntKind.bits,tL,nV,fh,dX,bp]
   have:val xs<val ax:=by
    rw[Lc,Ld];rw[a2,ar]at bp;exact wS (by omega)
   rw[if_pos this]
  ·simp (maxSteps:=2000000) only[↓ak,aj,↓reduceIte,reduceCtorEq,Nat.reduceEqDiff,Nat.reduceLeDiff,Nat.reduceSub,Nat.reduceAdd,Int.reduceToNat,Nat.reducePow,Int.reducePow,Int.reduceLE,Int.reduceLT,IntKind.bits,tL,nV,fh,dX,bp]
   have:val ax<val xs:=by
    rw[Lc,Ld];rw[a2,ar]at bp aB;exact wS (by omega)
   rw[if_neg (by omega),if_pos this]
def tM:bq where
 pre:=fun ds=>∃n:Int,ds=[.int .i64 n]∧aG n
 res:=fun ds=>match ds with
  |[.int _ n]=>a7 n.toNat
  |_=> .nilp
theorem ahr (Γ:Env) (ds:List D) (h:tM.pre ds):bH Γ yF JZ ds fun d=>d=tM.res ds:=by
 obtain⟨N,rfl,bR⟩:=h
 simp (maxSteps:=2000000) only[↓ak,aj,↓reduceIte,reduceCtorEq,Nat.reduceEqDiff,Nat.reduceLeDiff,Nat.reduceSub,Nat.reduceAdd,Int.reduceToNat,Nat.reducePow,Int.reducePow,Int.reduceLE,Int.reduceLT,IntKind.bits,yF,JZ,tM]
 refine cc (fun s=>∃out:List Int,s.af 3= .own 3 0 out.length∧s.aw 3=some ⟨false,false,.ints .i64 out⟩∧out=ai N.toNat) ?_ ?_
 ·simp (maxSteps:=2000000) only[↓ak,aj,↓reduceIte,reduceCtorEq,Nat.reduceEqDiff,Nat.reduceLeDiff,Nat.reduceSub,Nat.reduceAdd,Int.reduceToNat,Nat.reducePow,Int.reducePow,Int.reduceLE,Int.reduceLT,IntKind.bits,yF]
  refine eC (fun s=>∃(out:List Int) (n:Int),s.af 3= .own 3 0 out.length∧s.aw 3=some ⟨false,false,.ints .i64 out⟩∧s.af 0= .d (.int .i64 n)∧n≤N∧aG n∧out.length+(ai n.toNat).length≤1000∧out++ai n.toNat=ai N.toNat) (fun s=>match s.af 0 with| .d (.int _ n)=>n.toNat|_=>0) ?_ ?_
  ·refine⟨[],N,?_⟩
   simp (maxSteps:=2000000) only[↓ak,aj,↓reduceIte,reduceCtorEq,Nat.reduceEqDiff,Nat.reduceLeDiff,Nat.reduceSub,Nat.reduceAdd,Int.reduceToNat,Nat.reducePow,Int.reducePow,Int.reduceLE,Int.reduceLT,IntKind.bits,yF]
   refine⟨Int.le_refl _,bR,?_⟩
   have:=qN (n:=N.toNat) (k:=3) (by simp only[aG]at bR;omega)
   omega
  ·rintro s ⟨out,n,al,aW,h0,aH,aq,hlen,aA⟩
   by_cases ao:n>0
   ·simp (maxSteps:=2000000) only[↓ak,aj,↓reduceIte,reduceCtorEq,Nat.reduceEqDiff,Nat.reduceLeDiff,Nat.reduceSub,Nat.reduceAdd,Int.reduceToNat,Nat.reducePow,Int.reducePow,Int.reduceLE,Int.reduceLT,IntKind.bits,al,aW,h0,ao]
    have iv:n.tdiv 16777216=n / 16777216:=Int.tdiv_eq_ediv_of_nonneg (by omega)
    have hq:n.tmod 16777216=n % 16777216:=Int.tmod_eq_emod_of_nonneg (by omega)
    have aS:ai n.toNat=n.tmod 16777216::ai (n.tdiv 16777216).toNat:=by
     rw[pq (by omega),iv,hq,show n.toNat / 16777216=(n / 16777216).toNat by omega,show ((n.toNat % 16777216:Nat):Int)=n % 16777216 by omega]
    rw[aS]at aA hlen
    simp only[List.length_cons]at hlen
    refine⟨by omega,by simp only[List.length_append,List.length_cons,List.length_nil,bL];omega,by omega,by rw[iv];simp only[aG]at*;omega,
     ⟨out++[n.tmod 16777216],n.tdiv 16777216,rfl,rfl,rfl,by rw[iv];omega,by rw[iv];simp only[aG]at*;omega,by simp only[List.length_append,List.length_cons,List.length_nil];omega,by rw[←aA];simp⟩,by rw[iv];omega⟩
   ·simp (maxSteps:=2000000) only[↓ak,aj,↓reduceIte,reduceCtorEq,Nat.reduceEqDiff,Nat.reduceLeDiff,Nat.reduceSub,Nat.reduceAdd,Int.reduceToNat,Nat.reducePow,Int.reducePow,Int.reduceLE,Int.reduceLT,IntKind.bits,al,aW,h0,ao]
    refine⟨out,rfl,rfl,?_⟩
    rw[show n.toNat=0 by omega,gf,List.append_nil]at aA
    exact aA
 ·rintro s ⟨out,al,aW,aA⟩
  simp (maxSteps:=2000000) only[↓ak,aj,↓reduceIte,reduceCtorEq,Nat.reduceEqDiff,Nat.reduceLeDiff,Nat.reduceSub,Nat.reduceAdd,Int.reduceToNat,Nat.reducePow,Int.reducePow,Int.reduceLE,Int.reduceLT,IntKind.bits,al,aW]
  rw[List.take_length,aA]
def lV:bq where
 pre:=fh.pre
 res:=fun ds=>match ds with
  |[.ints _ xs,.ints _ ax]=>if val xs<val ax then .ep [.ints .i64 [],.bool false]else .ep [a7 (val xs - val ax),.bool true]
  |_=> .nilp
theorem ahs (Γ:Env) (f92:Γ.fn 92=some fh) (yK:Γ.mt 92=none) (f124:Γ.fn 124=some il) (kP:Γ.mt 124=none) (f125:Γ.fn 125=some nK) (vq:Γ.mt 125=none) (ds:List D) (h:lV.pre ds):bH Γ vL CS ds fun d=>d=lV.res ds:=by
 obtain⟨xs,ax,rfl,⟨a,a2⟩,⟨b,ar⟩,cP,ga⟩:=h
 have ah:bQ xs:=a2▸cN a
 have hy:bQ ax:=ar▸cN b
 have R2:fh.own=false:=rfl
 have R3:fh.pre [.ints .i64 xs,.ints .i64 ax]:=⟨xs,ax,rfl,⟨a,a2⟩,⟨b,ar⟩,cP,ga⟩
 by_cases bp:val xs<val ax
 ·have nV:fh.res [.ints .i64 xs,.ints .i64 ax]= .int .i64 (-1):=by simp only[fh];rw[if_pos bp]
  simp (maxSteps:=2000000) only[↓ak,aj,↓reduceIte,reduceCtorEq,Nat.reduceEqDiff,Nat.reduceLeDiff,Nat.reduceSub,Nat.reduceAdd,Int.reduceToNat,Nat.reducePow,Int.reducePow,Int.reduceLE,Int.reduceLT,IntKind.bits,vL,CS,lV,f92,yK,R3,R2,nV,bp]
 ·have nV:∃n:Int,fh.res [.ints .i64 xs,.ints .i64 ax]= .int .i64 n∧¬n<0:=by simp only[fh];rw[if_neg bp];split<;>exact⟨_,rfl,by decide⟩
  obtain⟨alG,nV,rM⟩:=nV
  simp (maxSteps:=2000000) only[↓ak,aj,↓reduceIte,reduceCtorEq,Nat.reduceEqDiff,Nat.reduceLeDiff,Nat.reduceSub,Nat.reduceAdd,Int.reduceToNat,Nat.reducePow,Int.reducePow,Int.reduceLE,Int.reduceLT,IntKind.bits,vL,CS,lV,f92,yK,R3,R2,nV,rM,bp]
  refine cc (fun s=>∃out:List Int,s.af 6= .own 6 0 out.length∧s.aw 6=some ⟨false,false,.ints .i64 out⟩∧bQ out∧out.length≤100000∧val out=val xs - val ax) ?_ ?_
  ·simp (maxSteps:=2000000) only[↓ak,aj,↓reduceIte,reduceCtorEq,Nat.reduceEqDiff,Nat.reduceLeDiff,Nat.reduceSub,Nat.reduceAdd,Int.reduceToNat,Nat.reducePow,Int.reducePow,Int.reduceLE,Int.reduceLT,IntKind.bits,vL]
   refine eC (fun s=>∃(out:List Int) (c:Nat),s.af 0= .d (.ints .i64 xs)∧s.af 1= .d (.ints .i64 ax)∧s.af 6= .own 6 0 out.length∧s.aw 6=some ⟨false,false,.ints .i64 out⟩∧s.af 7= .d (.int .i64 c)∧s.af 8= .d (.int .i64 out.length)∧
    bQ out∧out.length≤xs.length∧c≤1∧val out+16777216^out.length*val (xs.drop out.length)=(val xs - val ax)+16777216^out.length*(c+val (ax.drop out.length)))
    (fun s=>match s.af 8 with| .d (.int _ n)=>xs.length - n.toNat|_=>0) ?_ ?_
   ·refine⟨[],0,?_⟩
    simp (maxSteps:=2000000) only[↓ak,aj,↓reduceIte,reduceCtorEq,Nat.reduceEqDiff,Nat.reduceLeDiff,Nat.reduceSub,Nat.reduceAdd,Int.reduceToNat,Nat.reducePow,Int.reducePow,Int.reduceLE,Int.reduceLT,IntKind.bits,vL]
    exact⟨rfl,rfl,(fun x ah=>by cases ah),Nat.zero_le _,by simp only[val,Nat.one_mul];omega⟩
   ·rintro s ⟨out,c,h0,h1,aM,a0,a4,bz,aB,bh,ao,aA⟩
    by_cases hd:(out.length:Int)<xs.length
    ·by_cases iW:xs.getD out.length 0 - ax.getD out.length 0 - (c:Int)<0<;>
      simp (maxSteps:=2000000) only[↓ak,aj,↓reduceIte,reduceCtorEq,Nat.reduceEqDiff,Nat.reduceLeDiff,Nat.reduceSub,Nat.reduceAdd,Int.reduceToNat,Nat.reducePow,Int.reducePow,Int.reduceLE,Int.reduceLT,IntKind.bits,h0,h1,aM,a0,a4,bz,f125,vq,nK,hd,iW]
     all_goals
      have ez:=ah.getD out.length
      have iu:=hy.getD out.length
     ·refine⟨by omega,⟨ax,out.length,rfl⟩,by simp only[aG];omega,by simp only[aG];omega,by simp only[aG];omega,by simp only[List.length_append,List.length_cons,List.length_nil,bL];omega,by simp only[aG];omega,
       ⟨out++[xs.getD out.length 0 - ax.getD out.length 0 - (c:Int)+16777216],1,rfl,rfl,rfl,by simp,aB.snoc (by omega) (by omega),by simp only[List.length_append,List.length_cons,List.length_nil];omega,by omega,?_⟩,by omega⟩
      have:=L7 (c':=1) (d:=xs.getD out.length 0 - ax.getD out.length 0 - (c:Int)+16777216) ah hy (by omega) (by omega) aA
      simpa only[List.length_append,List.length_cons,List.length_nil,Nat.zero_add]using this
     ·refine⟨by omega,⟨ax,out.length,rfl⟩,by simp only[aG];omega,by simp only[aG];omega,by simp only[List.length_append,List.length_cons,List.length_nil,bL];omega,by simp only[aG];omega,
       ⟨out++[xs.getD out.length 0 - ax.getD out.length 0 - (c:Int)],0,rfl,rfl,rfl,by simp,aB.snoc (by omega) (by omega),by simp only[List.length_append,List.length_cons,List.length_nil];omega,by omega,?_⟩,by omega⟩
      have:=L7 (c':=0) (d:=xs.getD out.length 0 - ax.getD out.length 0 - (c:Int)) ah hy (by omega) (by omega) aA
      simpa only[List.length_append,List.length_cons,List.length_nil,Nat.zero_add]using this
    ·simp (maxSteps:=2000000) only[↓ak,aj,↓reduceIte,reduceCtorEq,Nat.reduceEqDiff,Nat.reduceLeDiff,Nat.reduceSub,Nat.reduceAdd,Int.reduceToNat,Nat.reducePow,Int.reducePow,Int.reduceLE,Int.reduceLT,IntKind.bits,h0,h1,aM,a0,a4,bz,f125,vq,nK,hd]
     have ad:out.length=xs.length:=by omega
     refine⟨out,rfl,rfl,aB,by omega,?_⟩
     rw[List.drop_of_length_le (l:=xs) (by omega)]at aA
     simp only[val,Nat.mul_zero,Nat.add_zero]at aA
     have alq:=ib aB
     have bg:c+val (ax.drop out.length)=0:=by
      rcases Nat.eq_zero_or_pos (c+val (ax.drop out.length))with h|h
      ·exact h
      ·exfalso
       have:=Nat.mul_le_mul_left (16777216^out.length) h
       omega
     rw[bg]at aA
     simpa using aA
  ·rintro s ⟨out,aM,a0,aB,bh,aA⟩
   simp (maxSteps:=2000000) only[↓ak,aj,↓reduceIte,reduceCtorEq,Nat.reduceEqDiff,Nat.reduceLeDiff,Nat.reduceSub,Nat.reduceAdd,Int.reduceToNat,Nat.reducePow,Int.reducePow,Int.reduceLE,Int.reduceLT,IntKind.bits,aM,a0,f124,kP,il]
   rw[List.take_length,aA]
   exact⟨⟨out,rfl,aB,bh⟩,rfl⟩
def kZ:bq where
 pre:=fun ds=>∃xs ax:List Int,ds=[.ints .i64 xs,.ints .i64 ax]∧bQ xs∧bQ ax∧xs.length≤10000∧ax.length≤10000
 res:=fun ds=>match ds with
  |[.ints _ xs,.ints _ ax]=>a7 (val xs*val ax)
  |_=> .nilp
theorem aht (Γ:Env) (f124:Γ.fn 124=some il) (kP:Γ.mt 124=none) (ds:List D) (h:kZ.pre ds):bH Γ yI J0 ds fun d=>d=kZ.res ds:=by
 obtain⟨xs,ax,rfl,ah,hy,cP,ga⟩:=h
 simp (maxSteps:=2000000) only[↓ak,aj,↓reduceIte,reduceCtorEq,Nat.reduceEqDiff,Nat.reduceLeDiff,Nat.reduceSub,Nat.reduceAdd,Int.reduceToNat,Nat.reducePow,Int.reducePow,Int.reduceLE,Int.reduceLT,IntKind.bits,yI,J0,kZ]
 refine⟨by simp only[aG];omega,by omega,by simp only[bL];omega,?_⟩
 refine cc (fun s=>∃out:List Int,s.af 5= .own 15 0 out.length∧s.aw 15=some ⟨false,false,.ints .i64 out⟩∧bQ out∧out.length≤20000∧val out=val xs*val ax) ?_ ?_
 ·simp (maxSteps:=2000000) only[↓ak,aj,↓reduceIte,reduceCtorEq,Nat.reduceEqDiff,Nat.reduceLeDiff,Nat.reduceSub,Nat.reduceAdd,Int.reduceToNat,Nat.reducePow,Int.reducePow,Int.reduceLE,Int.reduceLT,IntKind.bits,yI]
  refine eC (fun s=>∃(out:List Int) (i:Nat),s.af 0= .d (.ints .i64 xs)∧s.af 1= .d (.ints .i64 ax)∧s.af 5= .own 15 0 out.length∧s.aw 15=some ⟨false,false,.ints .i64 out⟩∧s.af 6= .d (.int .i64 i)∧
   bQ out∧out.length=xs.length+ax.length∧i≤xs.length∧val out=val (xs.take i)*val ax∧∀j,i+ax.length≤j→out.getD j 0=0)
   (fun s=>match s.af 6 with| .d (.int _ n)=>xs.length - n.toNat|_=>0) ?_ ?_
  ·refine⟨List.replicate (xs.length+ax.length) 0,0,?_⟩
   simp (maxSteps:=2000000) only[↓ak,aj,↓reduceIte,reduceCtorEq,Nat.reduceEqDiff,Nat.reduceLeDiff,Nat.reduceSub,Nat.reduceAdd,Int.reduceToNat,Nat.reducePow,Int.reducePow,Int.reduceLE,Int.reduceLT,IntKind.bits,yI]
   rw[show ((xs.length:Int)+ax.length).toNat=xs.length+ax.length by omega]
   refine⟨rfl,rfl,rfl,fun x ah=> ?_,Nat.zero_le _,by rw[uH];simp[val],fun j _=> ?_⟩
   ·rw[List.eq_of_mem_replicate ah];decide
   ·rw[List.getD_eq_getElem?_getD,List.getElem?_replicate];split<;>rfl
  ·rintro s ⟨out,i,h0,h1,aI,k0,aM,aB,hlen,hi,aA,bg⟩
   by_cases hd:(i:Int)<xs.length
   ·simp (maxSteps:=2000000) only[↓ak,aj,↓reduceIte,reduceCtorEq,Nat.reduceEqDiff,Nat.reduceLeDiff,Nat.reduceSub,Nat.reduceAdd,Int.reduceToNat,Nat.reducePow,Int.reducePow,Int.reduceLE,Int.reduceLT,IntKind.bits,h0,h1,aI,k0,aM,hd]
    refine cc (fun s=>∃out:List Int,s.af 0= .d (.ints .i64 xs)∧s.af 1= .d (.ints .i64 ax)∧s.af 5= .own 15 0 out.length∧s.aw 15=some ⟨false,false,.ints .i64 out⟩∧s.af 6= .d (.int .i64 i)∧
     bQ out∧out.length=xs.length+ax.length∧val out=val (xs.take (i+1))*val ax∧∀j,i+1+ax.length≤j→out.getD j 0=0) ?_ ?_
    ·simp (maxSteps:=2000000) only[↓ak,aj,↓reduceIte,reduceCtorEq,Nat.reduceEqDiff,Nat.reduceLeDiff,Nat.reduceSub,Nat.reduceAdd,Int.reduceToNat,Nat.reducePow,Int.reducePow,Int.reduceLE,Int.reduceLT,IntKind.bits,h0,h1,aI,k0,aM,hd]
     refine cc (fun s=>∃(cV:List Int) (c:Nat),s.af 0= .d (.ints .i64 xs)∧s.af 1= .d (.ints .i64 ax)∧s.af 5= .own 15 0 cV.length∧s.aw 15=some ⟨false,false,.ints .i64 cV⟩∧s.af 6= .d (.int .i64 i)∧s.af 7= .d (.int .i64 c)∧
      bQ cV∧cV.length=xs.length+ax.length∧c<16777216∧val cV+16777216^(i+ax.length)*c=val out+16777216^i*((xs.getD i 0).toNat*val ax)∧∀j,i+ax.length≤j→cV.getD j 0=0) ?_ ?_
     ·simp (maxSteps:=2000000) only[↓ak,aj,↓reduceIte,reduceCtorEq,Nat.reduceEqDiff,Nat.reduceLeDiff,Nat.reduceSub,Nat.reduceAdd,Int.reduceToNat,Nat.reducePow,Int.reducePow,Int.reduceLE,Int.reduceLT,IntKind.bits,h0,h1,aI,k0,aM,hd]
      refine eC (fun s=>∃(cV:List Int) (c k:Nat),s.af 0= .d (.ints .i64 xs)∧s.af 1= .d (.ints .i64 ax)∧s.af 5= .own 15 0 cV.length∧s.aw 15=some ⟨false,false,.ints .i64 cV⟩∧s.af 6= .d (.int .i64 i)∧s.af 7= .d (.int .i64 c)∧s.af 8= .d (.int .i64 k)∧
       bQ cV∧cV.length=xs.length+ax.length∧c<16777216∧k≤ax.length∧val cV+16777216^(i+k)*c=val out+16777216^i*((xs.getD i 0).toNat*val (ax.take k))∧∀j,i+ax.length≤j→cV.getD j 0=0)
       (fun s=>match s.af 8 with| .d (.int _ n)=>ax.length - n.toNat|_=>0) ?_ ?_
      ·refine⟨out,0,0,?_⟩
       simp (maxSteps:=2000000) only[↓ak,aj,↓reduceIte,reduceCtorEq,Nat.reduceEqDiff,Nat.reduceLeDiff,Nat.reduceSub,Nat.reduceAdd,Int.reduceToNat,Nat.reducePow,Int.reducePow,Int.reduceLE,Int.reduceLT,IntKind.bits,h0,h1,aI,k0,aM,hd]
       refine⟨rfl,rfl,aB,hlen,by omega,Nat.zero_le _,by simp[val],bg⟩
      ·rintro s ⟨cV,c,k,h0,h1,aI,k0,aM,a4,bz,eH,gO,ao,ad,kn,ko⟩
       by_cases iW:(k:Int)<ax.length
       ·have a1:((i:Int)+k).toNat=i+k:=by omega
        have a6:i+k<cV.length:=by omega
        have k1:=ah.getD i
        have J7:=hy.getD k
        have bh:=eH.getD (i+k)
        have pK:xs.getD i 0*ax.getD k 0=(((xs.getD i 0).toNat*(ax.getD k 0).toNat:Nat):Int):=by
         rw[Int.natCast_mul,Int.toNat_of_nonneg k1.1,Int.toNat_of_nonneg J7.1]
        have p7:=M7 (x:=(xs.getD i 0).toNat) (y:=(ax.getD k 0).toNat) (c:=c) (o:=(cV.getD (i+k) 0).toNat) (by omega) (by omega) ao (by omega)
        simp (maxSteps:=2000000) only[↓ak,aj,↓reduceIte,reduceCtorEq,Nat.reduceEqDiff,Nat.reduceLeDiff,Nat.reduceSub,Nat.reduceAdd,Int.reduceToNat,Nat.reducePow,Int.reducePow,Int.reduceLE,Int.reduceLT,IntKind.bits,h0,h1,aI,k0,aM,a4,bz,iW,a1,a6,pK]
        generalize jy:cV.getD (i+k) 0+(((xs.getD i 0).toNat*(ax.getD k 0).toNat:Nat):Int)+(c:Int)=S
        have er:=Ok (out:=cV) (j:=i+k) (c:=c) (x:=(xs.getD i 0).toNat) (y:=(ax.getD k 0).toNat) eH a6 jy.symm
        have vM:0≤S:=by omega
        have ahu:S<16777216*16777216:=by omega
        have iv:S.tdiv 16777216=S / 16777216:=Int.tdiv_eq_ediv_of_nonneg vM
        have hq:S.tmod 16777216=S % 16777216:=Int.tmod_eq_emod_of_nonneg vM
        refine⟨by simp only[aG];omega,by omega,by omega,by omega,by omega,by omega,by simp only[aG];omega,by simp only[aG];omega,by simp only[aG];omega,by simp only[aG];omega,by omega,by omega,by omega,by omega,
         by rw[iv];simp only[aG];omega,by simp only[aG];omega,⟨cV.set (i+k) (S.tmod 16777216),(S.tdiv 16777216).toNat,k+1,by rw[List.length_set],rfl,by rw[iv];omega,by omega,eH.set _ (by rw[hq];omega) (by rw[hq];omega),by rw[List.length_set];exact gO,by rw[iv];omega,by omega,?_,fun j az=> ?_⟩,by omega⟩
        ·rw[show i+(k+1)=i+k+1 by omega,er,Nat.mul_add,←Nat.add_assoc,kn,ux (by omega),Nat.mul_add,Nat.mul_add,Nat.add_assoc]
         congr 2
         rw[Nat.pow_add,Nat.mul_assoc]
         congr 1
         rw[Nat.mul_left_comm]
        ·rw[og (by omega)];exact ko j az
       ·simp (maxSteps:=2000000) only[↓ak,aj,↓reduceIte,reduceCtorEq,Nat.reduceEqDiff,Nat.reduceLeDiff,Nat.reduceSub,Nat.reduceAdd,Int.reduceToNat,Nat.reducePow,Int.reducePow,Int.reduceLE,Int.reduceLT,IntKind.bits,h0,h1,aI,k0,aM,a4,bz,iW]
        rw[List.take_of_length_le (by omega),show k=ax.length by omega]at kn
        exact⟨cV,c,rfl,rfl,rfl,eH,gO,ao,kn,ko⟩
     ·rintro s ⟨cV,c,h0,h1,aI,k0,aM,a4,eH,gO,ao,kn,ko⟩
      have a1:((i:Int)+ax.length).toNat=i+ax.length:=by omega
      have a6:i+ax.length<cV.length:=by omega
      simp (maxSteps:=2000000) only[↓ak,aj,↓reduceIte,reduceCtorEq,Nat.reduceEqDiff,Nat.reduceLeDiff,Nat.reduceSub,Nat.reduceAdd,Int.reduceToNat,Nat.reducePow,Int.reducePow,Int.reduceLE,Int.reduceLT,IntKind.bits,h0,h1,aI,k0,aM,a4,a1,a6]
      refine⟨by simp only[aG];omega,by omega,by omega,⟨cV.set (i+ax.length) c,by rw[List.length_set],rfl,eH.set _ (by omega) (by omega),by rw[List.length_set];exact gO,?_,fun j az=> ?_⟩⟩
      ·have ay:=AF a6 (c:Int)
       rw[ko _ (Nat.le_refl _)]at ay
       simp only[Int.toNat_zero,Nat.mul_zero,Nat.add_zero,Int.toNat_natCast]at ay
       rw[ay,kn,aA,ux (by omega),Nat.add_mul,Nat.mul_assoc]
      ·rw[og (by omega)];exact ko j (by omega)
    ·rintro s ⟨cV,h0,h1,aI,k0,aM,eH,gO,kn,ko⟩
     simp (maxSteps:=2000000) only[↓ak,aj,↓reduceIte,reduceCtorEq,Nat.reduceEqDiff,Nat.reduceLeDiff,Nat.reduceSub,Nat.reduceAdd,Int.reduceToNat,Nat.reducePow,Int.reducePow,Int.reduceLE,Int.reduceLT,IntKind.bits,h0,h1,aI,k0,aM]
     exact⟨by simp only[aG];omega,⟨cV,i+1,rfl,rfl,by omega,eH,gO,by omega,kn,ko⟩,by omega⟩
   ·simp (maxSteps:=2000000) only[↓ak,aj,↓reduceIte,reduceCtorEq,Nat.reduceEqDiff,Nat.reduceLeDiff,Nat.reduceSub,Nat.reduceAdd,Int.reduceToNat,Nat.reducePow,Int.reducePow,Int.reduceLE,Int.reduceLT,IntKind.bits,h0,h1,aI,k0,aM,hd]
    rw[List.take_of_length_le (by omega)]at aA
    exact⟨out,rfl,rfl,aB,by omega,aA⟩
 ·rintro s ⟨out,aI,k0,aB,bh,aA⟩
  simp (maxSteps:=2000000) only[↓ak,aj,↓reduceIte,reduceCtorEq,Nat.reduceEqDiff,Nat.reduceLeDiff,Nat.reduceSub,Nat.reduceAdd,Int.reduceToNat,Nat.reducePow,Int.reducePow,Int.reduceLE,Int.reduceLT,IntKind.bits,aI,k0,f124,kP,il]
  rw[List.take_length,aA]
  exact⟨⟨out,rfl,aB,by omega⟩,rfl⟩
end RV.Dr
namespace RV
def bc (n:Nat):Nat:=if n=0 then 0 else n.log2+1
theorem hS {n k:Nat} :bc n≤k↔n<2^k:=by
 unfold bc
 by_cases h:n=0
 ·subst h;simp[Nat.two_pow_pos]
 ·rw[if_neg h,←Nat.log2_lt h];omega
theorem jb (n:Nat):n<2^bc n:=hS.1 (Nat.le_refl _)
theorem j2:bc 0=0:=rfl
theorem pw {n:Nat} (h:n≠0):0<bc n:=by unfold bc;rw[if_neg h];omega
theorem uA {n:Nat} (h:n≠0):2^(bc n - 1)≤n:=by
 rcases Nat.lt_or_ge n (2^(bc n - 1))with h2|h2
 ·have:=hS.2 h2
  have:=pw h
  omega
 ·exact h2
theorem zL {n k:Nat} (h0:0<k) (h1:2^(k - 1)≤n) (h2:n<2^k):bc n=k:=by
 have a:=hS.2 h2
 rcases Nat.lt_or_ge (bc n) k with h|h
 ·have:=hS.1 (show bc n≤k - 1 by omega)
  omega
 ·omega
theorem qO {a b:Nat} (h:a≤b):bc a≤bc b:=hS.2 (Nat.lt_of_le_of_lt h (jb b))
theorem Nd {n:Nat} (h:n≠0):bc n=bc (n / 2)+1:=by
 refine zL (by omega) ?_ ?_
 ·rw[Nat.add_sub_cancel]
  by_cases h2:n / 2=0
  ·rw[h2,j2];simp;omega
  ·have:=uA h2
   have aS:=pw h2
   rw[show bc (n / 2)=bc (n / 2) - 1+1 by omega,Nat.pow_succ]
   omega
 ·have:=jb (n / 2)
  rw[Nat.pow_succ];omega
theorem j3 {n:Nat} (h:n≠0) (k:Nat):bc (n*2^k)=bc n+k:=by
 have aS:=pw h
 refine zL (by omega) ?_ ?_
 ·rw[show bc n+k - 1=bc n - 1+k by omega,Nat.pow_add]
  exact Nat.mul_le_mul_right _ (uA h)
 ·rw[Nat.pow_add]
  exact Nat.mul_lt_mul_of_pos_right (jb n) (Nat.two_pow_pos k)
theorem As (n k:Nat):bc (n / 2^k)=bc n - k:=by
 rcases Nat.lt_or_ge k (bc n)with h|h
 ·have h0:n≠0:=fun e=>by subst e;simp[j2]at h
  refine zL (by omega) ?_ ?_
  ·rw[Nat.le_div_iff_mul_le (Nat.two_pow_pos k),←Nat.pow_add,show bc n - k - 1+k=bc n - 1 by omega]
   exact uA h0
  ·rw[Nat.div_lt_iff_lt_mul (Nat.two_pow_pos k),←Nat.pow_add,show bc n - k+k=bc n by omega]
   exact jb n
 ·rw[Nat.div_eq_of_lt (hS.1 h),j2];omega
theorem q4 (k:Nat):(16777216:Nat)^k=2^(24*k):=by rw[Nat.pow_mul]
theorem Oq {xs:List Int} (h:bQ xs) (h0:xs≠[]) (aB:xs.getD (xs.length - 1) 0≠0):bc (val xs)=24*(xs.length - 1)+bc (xs.getD (xs.length - 1) 0).toNat:=by
 have hlen:0<xs.length:=List.length_pos_iff.2 h0
 have aC:=h.getD (xs.length - 1)
 have aA:=wT xs (xs.length - 1) (by omega)
 rw[lk,List.drop_of_length_le (by omega)]at aA
 have ae:=ib (h.take (xs.length - 1))
 rw[List.length_take,Nat.min_eq_left (by omega)]at ae
 simp only[val,Nat.mul_zero,Nat.add_zero]at aA
 have dX:(xs.getD (xs.length - 1) 0).toNat≠0:=by omega
 have ar:=pw dX
 have h1:=uA dX
 have h2:=jb (xs.getD (xs.length - 1) 0).toNat
 generalize (xs.getD (xs.length - 1) 0).toNat=t at*
 rw[q4]at*
 refine zL (by omega) ?_ ?_
 ·rw[show 24*(xs.length - 1)+bc t - 1=24*(xs.length - 1)+(bc t - 1)by omega,Nat.pow_add,aA]
  exact Nat.le_trans (Nat.mul_le_mul_left _ h1) (Nat.le_add_left _ _)
 ·rw[Nat.pow_add,aA]
  have:2^(24*(xs.length - 1))*(t+1)≤2^(24*(xs.length - 1))*2^bc t:=Nat.mul_le_mul_left _ h2
  rw[Nat.mul_add]at this
  omega
theorem DJ {n:Nat} (h:n≠0):(ai n).getD ((ai n).length - 1) 0≠0:=by
 have aS:=qG h
 rw[List.getD_eq_getElem?_getD,List.getElem?_eq_getElem (by omega)]
 refine aaK (n:=n) _ ?_
 rw[List.getLast?_eq_getElem?,List.getElem?_eq_getElem (by omega)]
 rfl
theorem Ot {n:Nat} (h:n≠0):ai n≠[]:=fun e=>h (M6 e)
theorem Ey {a b:Nat} (h:ai a=ai b):a=b:=by rw[←bO a,h,bO]
theorem sr (n:Nat):bc n≤24*(ai n).length:=by
 rw[hS,←q4];exact ER n
theorem sw (a b:Nat):bc (a+b)≤max (bc a) (bc b)+1:=by
 rw[hS,Nat.pow_succ]
 have h1:=jb a
 have h2:=jb b
 have al:2^bc a≤2^max (bc a) (bc b):=Nat.pow_le_pow_right (by decide) (Nat.le_max_left _ _)
 have aE:2^bc b≤2^max (bc a) (bc b):=Nat.pow_le_pow_right (by decide) (Nat.le_max_right _ _)
 omega
theorem uB (a b:Nat):bc (a*b)≤bc a+bc b:=by
 rw[hS,Nat.pow_add]
 have h1:=jb a
 have h2:=jb b
 exact Nat.mul_lt_mul_of_lt_of_lt h1 h2
theorem Z8 {a b:Nat} (a2:a≠0) (ar:b≠0):bc a+bc b≤bc (a*b)+1:=by
 have h1:=uA a2
 have h2:=uA ar
 have hm:=Nat.mul_le_mul h1 h2
 rw[←Nat.pow_add]at hm
 have pa:=pw a2
 have ma:=pw ar
 rcases Nat.lt_or_ge (bc (a*b)) (bc a+bc b - 1)with h|h
 ·have:=hS.1 (Nat.le_of_lt_succ (show bc (a*b)<(bc a - 1+(bc b - 1))+1 by omega))
  omega
 ·omega
end RV
namespace RV
theorem Ou {p q:Nat} (aS:0<p) (lQ:p*q=16777216) (x v:Nat):(x+16777216*v) / p=x / p+v % p*q+16777216*(v / p):=by
 rw[←lQ,Nat.mul_assoc,Nat.add_mul_div_left _ _ aS,Nat.add_assoc]
 congr 1
 conv=>lhs;rw[←Nat.mod_add_div v p]
 rw[Nat.mul_add,Nat.mul_comm q (v % p),Nat.mul_assoc,←Nat.mul_assoc q p,Nat.mul_comm q p,Nat.mul_assoc]
theorem Ov {p q:Nat} (aS:0<p) (lQ:p*q=16777216) {x:Nat} (ah:x<16777216) (y:Nat):x / p+y % p*q<16777216:=by
 have h1:x / p<q:=by rw[Nat.div_lt_iff_lt_mul aS,Nat.mul_comm,lQ];exact ah
 have h2:y % p<p:=Nat.mod_lt _ aS
 have al:(y % p+1)*q≤p*q:=Nat.mul_le_mul_right _ h2
 rw[Nat.add_mul]at al
 omega
theorem zE {xs:List Int} (h:bQ xs) (k:Nat):val (xs.drop k)=val xs / 16777216^k:=by
 rcases Nat.lt_or_ge k xs.length with ad|ad
 ·have h1:=wT xs k (by omega)
  have h2:=ib (h.take k)
  rw[List.length_take,Nat.min_eq_left (by omega)]at h2
  rw[h1,Nat.add_mul_div_left _ _ (Nat.pow_pos (by decide)),Nat.div_eq_of_lt h2,Nat.zero_add]
 ·rw[List.drop_of_length_le ad,Nat.div_eq_of_lt (Nat.lt_of_lt_of_le (ib h) (Nat.pow_le_pow_right (by decide) ad))]
  rfl
theorem Ma {xs:List Int} {p q:Nat} (lQ:p*q=16777216):∀(i:Nat),val (xs.drop i) % p=(xs.getD i 0).toNat % p:=fun i=>by
 rw[lk,←lQ,Nat.mul_assoc,Nat.add_mul_mod_self_left]
theorem Mb {k:Int} (ad:0≤k):(16777216:Nat)^(k / 24).toNat*2^(k % 24).toNat=2^k.toNat:=by
 rw[q4,←Nat.pow_add];congr 1;omega
theorem Nf {k:Int} (ad:0≤k):∃q:Nat,2^(k % 24).toNat*q=16777216∧2≤q:=⟨2^(24 - (k % 24).toNat),by rw[←Nat.pow_add,show (k % 24).toNat+(24 - (k % 24).toNat)=24 by omega],by
 have:2^1≤2^(24 - (k % 24).toNat):=Nat.pow_le_pow_right (by decide) (by omega)
 simpa using this⟩
theorem Ow {out:List Int} {c p q x v i:Nat} {s:Int} (ay:s=((x*p+c:Nat):Int)) (hlen:out.length=q+i) (aA:val out+16777216^(q+i)*c=16777216^q*(p*v)):
 val (out++[s.tmod 16777216])+16777216^(q+i+1)*(s.tdiv 16777216).toNat=16777216^q*(p*(v+16777216^i*x)):=by
 have h0:0≤s:=by omega
 have:=Mx (out:=out) (T:=val out+16777216^out.length*s.toNat) (r:=s.toNat) (r':=0) h0 rfl (by omega)
 simp only[hlen,Nat.add_zero]at this
 rw[this,show s.toNat=x*p+c by omega,Nat.mul_add,Nat.add_left_comm,←Nat.add_assoc,Nat.add_assoc,aA]
 rw[Nat.mul_add,Nat.mul_add,Nat.pow_add]
 have:16777216^q*16777216^i*(x*p)=16777216^q*(p*(16777216^i*x)):=by
  simp only[Nat.mul_assoc,Nat.mul_comm,Nat.mul_left_comm]
 rw[this,Nat.add_comm]
end RV
namespace RV
theorem wC (xs:List Int) (i:Nat):val (xs.take (i+1))=val (xs.take i)+16777216^i*(xs.getD i 0).toNat:=by
 rcases Nat.lt_or_ge i xs.length with h|h
 ·exact ux h
 ·rw[List.take_of_length_le (by omega),List.take_of_length_le h,List.getD_eq_getElem?_getD,List.getElem?_eq_none h];simp
theorem zF {out:List Int} {i:Nat} (hi:i<out.length) (v:Int):val ((out.set i v).take (i+1))=val (out.take i)+16777216^i*v.toNat:=by
 rw[wC,List.take_set_of_le (Nat.le_refl i),List.getD_eq_getElem?_getD,List.getElem?_set_self hi]
 rfl
theorem Eh {out xs ax:List Int} {i:Nat} {c t s:Int} (hi:i<out.length) (ah:bQ xs) (hy:bQ ax) (ay:s=xs.getD i 0+t*ax.getD i 0+c)
 (aA:(val (out.take i):Int)+16777216^i*c=val (xs.take i)+t*val (ax.take i)):
 (val ((out.set i (s % 16777216)).take (i+1)):Int)+16777216^(i+1)*(s / 16777216)=val (xs.take (i+1))+t*val (ax.take (i+1)):=by
 rw[zF hi,wC,wC]
 have h1:=ah.getD i
 have h2:=hy.getD i
 simp only[Int.natCast_add,Int.natCast_mul,Int.natCast_pow,Int.toNat_of_nonneg h1.1,Int.toNat_of_nonneg h2.1,Int.toNat_of_nonneg (show 0≤s % 16777216 by omega)]
 have e:(s % 16777216)+16777216*(s / 16777216)=s:=by omega
 show (val (out.take i):Int)+16777216^i*(s % 16777216)+16777216^(i+1)*(s / 16777216)=(val (xs.take i):Int)+16777216^i*xs.getD i 0+t*((val (ax.take i):Int)+16777216^i*ax.getD i 0)
 rw[Int.pow_succ,Int.mul_assoc,Int.add_assoc,←Int.mul_add,e,ay,Int.mul_add,Int.mul_add,Int.mul_add]
 have a6:t*((16777216:Int)^i*ax.getD i 0)=16777216^i*(t*ax.getD i 0):=Int.mul_left_comm ..
 rw[a6]
 generalize (16777216:Int)^i*(t*ax.getD i 0)=A at*
 generalize (16777216:Int)^i*xs.getD i 0=B at*
 omega
theorem Ez {n:Nat} {v T:Nat} {c:Int} (aA:(v:Int)+16777216^n*c=T) (h1:v<16777216^n) (h2:T<16777216^n) (ao:c=0∨c=1∨c= -1):c=0∧v=T:=by
 have e:((16777216^n:Nat):Int)=16777216^n:=by rw[Int.natCast_pow];rfl
 rcases ao with rfl|rfl|rfl
 ·exact⟨rfl,by omega⟩
 ·exfalso;rw[←e]at aA;omega
 ·exfalso;rw[←e]at aA;omega
end RV
namespace RV
theorem abn {out:List Int} {j c x y:Nat} {s:Int} (aB:bQ out) (az:j<out.length) (ay:s=out.getD j 0+(x*y:Nat)+c):
 val (out.set j (s % 16777216))+16777216^(j+1)*(s / 16777216).toNat=val out+16777216^j*(c+x*y):=by
 have bh:=aB.getD j
 have h:=Ok aB az ay
 rwa [Int.tmod_eq_emod_of_nonneg (by omega),Int.tdiv_eq_ediv_of_nonneg (by omega)]at h
end RV
namespace RV
theorem abo {out:List Int} {c p x Q j v:Nat} (hi:Q+j<out.length) (aA:val (out.take (Q+j))+16777216^(Q+j)*c=16777216^Q*(p*v)):
 val ((out.set (Q+j) ((((x*p:Nat):Int)+c) % 16777216)).take (Q+j+1))+16777216^(Q+j+1)*((((x*p:Nat):Int)+c) / 16777216).toNat=16777216^Q*(p*(v+16777216^j*x)):=by
 have aB:(out.take (Q+j)).length=Q+j:=by rw[List.length_take];omega
 have h:=Ow (out:=out.take (Q+j)) (x:=x) (s:=((x*p:Nat):Int)+c) (by omega) aB aA
 rw[zF hi]
 rw[qQ,aB,Int.tmod_eq_emod_of_nonneg (by omega),Int.tdiv_eq_ediv_of_nonneg (by omega)]at h
 exact h
theorem carry_zero {v P c T:Nat} (h:v+P*c=T) (b5:T<P):c=0∧v=T:=by
 rcases Nat.eq_zero_or_pos c with h0|h0
 ·subst h0;exact⟨rfl,by simpa using h⟩
 ·exfalso
  have:P*1≤P*c:=Nat.mul_le_mul_left _ h0
  omega
theorem ab3 {xs:List Int} (h:bQ xs) {p Q:Nat} (aS:p<16777216):16777216^Q*p*val xs<16777216^(Q+xs.length+1):=by
 have h1:=ib h
 rw[Nat.pow_succ,Nat.pow_add,Nat.mul_assoc,Nat.mul_assoc]
 refine Nat.mul_lt_mul_of_pos_left ?_ (Nat.pow_pos (by decide))
 rw[Nat.mul_comm p]
 exact Nat.mul_lt_mul_of_lt_of_lt h1 aS
def eF:Nat→Nat→List Int
 |0,_=>[]
 |n+1,v=>((v % 16777216:Nat):Int)::eF n (v / 16777216)
theorem eD:∀(n v:Nat),(eF n v).length=n
 |0,_=>rfl
 |n+1,v=>by rw[eF,List.length_cons,eD n]
theorem kC:∀(n v:Nat),bQ (eF n v)
 |0,_=>fun x ah=>by cases ah
 |n+1,v=>fun x ah=>by
  rw[eF]at ah
  rcases List.mem_cons.1 ah with rfl|ah
  ·omega
  ·exact kC n _ x ah
theorem ES:∀{xs:List Int},bQ xs→eF xs.length (val xs)=xs
 |[],_=>rfl
 |x::xs,h=>by
  have dZ:=h.head
  rw[List.length_cons,eF,val,show (x.toNat+16777216*val xs) / 16777216=val xs by omega,ES h.tail,show (((x.toNat+16777216*val xs) % 16777216:Nat):Int)=x by omega]
theorem uL:∀{n v:Nat},v<16777216^n→val (eF n v)=v
 |0,v,h=>by simp at h;subst h;rfl
 |n+1,v,h=>by
  rw[Nat.pow_succ]at h
  rw[eF,val,uL (by rw[Nat.div_lt_iff_lt_mul (by decide)];exact h)]
  omega
theorem PH {xs:List Int} {n v:Nat} (h:bQ xs) (aB:xs.length=n) (aA:val xs=v):xs=eF n v:=by
 rw[←aB,←aA,ES h]
theorem abp (n:Nat):eF n 0=List.replicate n 0:=by
 refine(PH (fun x ah=> ?_) (List.length_replicate ..) (uH n)).symm
 rw[List.eq_of_mem_replicate ah];decide
end RV
namespace RV
theorem acO {out:List Int} {c p i T:Nat} (hi:i<out.length) (x:Nat) (aA:val (out.take i)+16777216^i*c=T):
 val ((out.set i ((((x*p:Nat):Int)+c) % 16777216)).take (i+1))+16777216^(i+1)*((((x*p:Nat):Int)+c) / 16777216).toNat=T+16777216^i*(x*p):=by
 rw[zF hi,Nat.pow_succ,Nat.mul_assoc,Nat.add_assoc,←Nat.mul_add]
 have e:((((x*p:Nat):Int)+c) % 16777216).toNat+16777216*((((x*p:Nat):Int)+c) / 16777216).toNat=c+x*p:=by omega
 rw[e,Nat.mul_add,←Nat.add_assoc,aA]
def aX (n:Nat):Nat:=if h:n=0 then 0 else if (2*aX (n / 4)+1)*(2*aX (n / 4)+1)≤n then 2*aX (n / 4)+1 else 2*aX (n / 4)
termination_by n
decreasing_by all_goals exact Nat.div_lt_self (Nat.pos_of_ne_zero h) (by decide)
theorem At:aX 0=0:=by unfold aX;rw[dif_pos rfl]
theorem Ox (N d:Nat) (aC:d<4):aX (4*N+d)=if (2*aX N+1)*(2*aX N+1)≤4*N+d then 2*aX N+1 else 2*aX N:=by
 by_cases h:4*N+d=0
 ·have:N=0:=by omega
  subst this
  rw[h,At];rfl
 ·conv=>lhs;unfold aX
  rw[dif_neg h,show (4*N+d) / 4=N by omega]
theorem jG (n:Nat):aX n*aX n≤n∧n<(aX n+1)*(aX n+1):=by
 induction n using Nat.strongRecOn with
 |_ n cm=>
  by_cases h:n=0
  ·subst h;rw[At];decide
  ·obtain⟨h1,h2⟩:=cm (n / 4) (by omega)
   have e:=Ox (n / 4) (n % 4) (by omega)
   rw[show 4*(n / 4)+n % 4=n by omega]at e
   rw[e]
   generalize aX (n / 4)=r at*
   have br:2*r*(2*r)=4*(r*r):=by
    rw[Nat.mul_mul_mul_comm]
   have bw:(r+1)*(r+1)=r*r+2*r+1:=by
    rw[Nat.add_mul,Nat.mul_add];omega
   have c3:(2*r+1)*(2*r+1)=4*(r*r)+4*r+1:=by
    rw[Nat.add_mul,Nat.mul_add,br];omega
   have gW:(2*r+1+1)*(2*r+1+1)=4*(r*r)+8*r+4:=by
    rw[show 2*r+1+1=2*(r+1)by omega,Nat.mul_mul_mul_comm,bw];omega
   split
   ·rename_i ao
    exact⟨ao,by omega⟩
   ·rename_i ao
    exact⟨by omega,by omega⟩
theorem aaO {n r:Nat} (h1:r*r≤n) (h2:n<(r+1)*(r+1)):aX n=r:=by
 obtain⟨al,aE⟩:=jG n
 rcases Nat.lt_trichotomy (aX n) r with h|h|h
 ·have:=Nat.mul_le_mul (show aX n+1≤r from h) (show aX n+1≤r from h)
  omega
 ·exact h
 ·have:=Nat.mul_le_mul (show r+1≤aX n from h) (show r+1≤aX n from h)
  omega
theorem ab4 (N d:Nat) (aC:d<4):
 (4*aX N+1≤4*(N - aX N*aX N)+d↔aX (4*N+d)=2*aX N+1)∧(¬4*aX N+1≤4*(N - aX N*aX N)+d↔aX (4*N+d)=2*aX N)∧
 4*N+d - aX (4*N+d)*aX (4*N+d)=if 4*aX N+1≤4*(N - aX N*aX N)+d then 4*(N - aX N*aX N)+d - (4*aX N+1)else 4*(N - aX N*aX N)+d:=by
 obtain⟨h1,h2⟩:=jG N
 have e:=Ox N d aC
 generalize aX N=r at*
 have br:2*r*(2*r)=4*(r*r):=by rw[Nat.mul_mul_mul_comm]
 have c3:(2*r+1)*(2*r+1)=4*(r*r)+4*r+1:=by
  rw[Nat.add_mul,Nat.mul_add,br];omega
 by_cases c:(2*r+1)*(2*r+1)≤4*N+d
 ·rw[if_pos c]at e
  rw[e,if_pos (by omega),c3]
  refine⟨⟨fun _=>rfl,fun _=>by omega⟩,⟨fun h=>absurd (by omega) h,fun h=>by omega⟩,by omega⟩
 ·rw[if_neg c]at e
  rw[e,if_neg (by omega),br]
  refine⟨⟨fun h=>by omega,fun h=>by omega⟩,⟨fun _=>rfl,fun _=>by omega⟩,by omega⟩
end RV
namespace RV
theorem MA (a q:Nat):(ai a).getD q 0=((a / 16777216^q % 16777216:Nat):Int):=by
 have h1:=zE (cN a) q
 have h2:=lk (ai a) q
 have al:=(cN a).getD q
 rw[bO]at h1
 omega
theorem ab5 (a u:Nat):a / 16777216^(2*u / 24) % 16777216 / 2^(2*u % 24) % 4=a / 4^u % 4:=by
 have e:(4:Nat)^u=16777216^(2*u / 24)*2^(2*u % 24):=by
  rw[q4,←Nat.pow_add,show (4:Nat)=2^2 from rfl,←Nat.pow_mul]
  congr 1;omega
 rw[e,←Nat.div_div_eq_div_mul]
 generalize a / 16777216^(2*u / 24)=b
 obtain⟨r,aq⟩:∃r,r=2*u % 24:=⟨_,rfl⟩
 have kk:r+2≤24:=by omega
 rw[←aq]
 have k:16777216=2^r*(4*2^(22 - r)):=by
  rw[show (4:Nat)=2^2 from rfl,←Nat.pow_add,←Nat.pow_add,show r+(2+(22 - r))=24 by omega]
 conv=>lhs;rw[k,Nat.mod_mul_right_div_self,Nat.mod_mul_right_mod]
theorem abq (a u:Nat):a / 4^u=4*(a / 4^(u+1))+a / 4^u % 4:=by
 rw[Nat.pow_succ,←Nat.div_div_eq_div_mul];omega
theorem Q2 {n b:Nat} (h:n<b*b):aX n<b:=by
 have h1:=(jG n).1
 rcases Nat.lt_or_ge (aX n) b with h2|h2
 ·exact h2
 ·have:=Nat.mul_le_mul h2 h2;omega
theorem ab6 (n:Nat):n - aX n*aX n≤2*aX n:=by
 have:=(jG n).2
 rw[Nat.add_mul,Nat.mul_add]at this
 omega
end RV
namespace RV
structure a3 where
 neg:Bool
 m:Nat
 e:Int
deriving DecidableEq
def bJ (n:Nat):Nat:=if h:n=0 then 0 else if n % 2=1 then 0 else bJ (n / 2)+1
termination_by n
decreasing_by exact Nat.div_lt_self (Nat.pos_of_ne_zero h) (by decide)
theorem A4 {n:Nat} (h:n % 2=1):bJ n=0:=by
 unfold bJ;rw[dif_neg (by omega),if_pos h]
theorem acP {n:Nat} (h0:n≠0) (h:n % 2=0):bJ n=bJ (n / 2)+1:=by
 conv=>lhs;unfold bJ
 rw[dif_neg h0,if_neg (by omega)]
theorem hJ {n:Nat} (h0:n≠0):n / 2^bJ n*2^bJ n=n∧n / 2^bJ n % 2=1:=by
 induction n using Nat.strongRecOn with
 |_ n cm=>
  by_cases h:n % 2=1
  ·rw[A4 h];simpa using h
  ·have:=cm (n / 2) (by omega) (by omega)
   rw[acP h0 (by omega),Nat.pow_succ,Nat.mul_comm (2^bJ (n / 2)) 2,←Nat.div_div_eq_div_mul,Nat.mul_comm 2,←Nat.mul_assoc,this.1]
   exact⟨by omega,this.2⟩
theorem Oy {n k:Nat} (h0:n≠0) (h:n % 2^k=0):k≤bJ n:=by
 have h1:=hJ h0
 rcases Nat.lt_or_ge (bJ n) k with aB|aB
 ·exfalso
  obtain⟨q,aZ⟩:=Nat.dvd_of_mod_eq_zero h
  have e:n / 2^bJ n*2^bJ n=(2^(k - bJ n - 1)*q*2)*2^bJ n:=by
   rw[h1.1]
   conv=>lhs;rw[aZ,show k=(k - bJ n - 1)+1+bJ n by omega,Nat.pow_add,Nat.pow_succ]
   simp only[Nat.mul_comm,Nat.mul_assoc,Nat.mul_left_comm]
  have:=Nat.eq_of_mul_eq_mul_right (Nat.two_pow_pos _) e
  have h2:=h1.2
  rw[this]at h2
  omega
 ·exact aB
theorem LB {a b i j:Nat} (a2:a % 2=1) (ar:b % 2=1) (h:a*2^i=b*2^j):a=b∧i=j:=by
 have key:∀{a b i j:Nat},a % 2=1→a*2^i=b*2^j→j≤i:=fun {a b i j} a2 h=>by
  rcases Nat.lt_or_ge i j with aB|aB
  ·exfalso
   have e:a*2^i=(b*2^(j - i - 1)*2)*2^i:=by
    rw[h];conv=>lhs;rw[show j=(j - i - 1)+1+i by omega,Nat.pow_add,Nat.pow_succ]
    simp only[Nat.mul_assoc]
   have:=Nat.eq_of_mul_eq_mul_right (Nat.two_pow_pos _) e
   omega
  ·exact aB
 have e:i=j:=Nat.le_antisymm (key ar h.symm) (key a2 h)
 subst e
 exact⟨Nat.eq_of_mul_eq_mul_right (Nat.two_pow_pos _) h,rfl⟩
def mk (neg:Bool) (m:Nat) (e:Int):a3:=if m=0 then ⟨false,0,0⟩else ⟨neg,m / 2^bJ m,e+bJ m⟩
def a3.ok (d:a3):Prop:=(d.m=0→d.neg=false∧d.e=0)∧(d.m≠0→d.m % 2=1)
def dI (d:a3):a3:=⟨!d.neg && decide (d.m≠0),d.m,d.e⟩
def fx (d:a3) (k:Int):a3:=mk d.neg d.m (d.e+k)
def dR (a b:a3):a3:=
 if a.m=0 then b else if b.m=0 then a else
 if a.neg=b.neg then mk a.neg (a.m*2^(a.e - min a.e b.e).toNat+b.m*2^(b.e - min a.e b.e).toNat) (min a.e b.e)
 else if b.m*2^(b.e - min a.e b.e).toNat≤a.m*2^(a.e - min a.e b.e).toNat then mk a.neg (a.m*2^(a.e - min a.e b.e).toNat - b.m*2^(b.e - min a.e b.e).toNat) (min a.e b.e)
 else mk b.neg (b.m*2^(b.e - min a.e b.e).toNat - a.m*2^(a.e - min a.e b.e).toNat) (min a.e b.e)
def cH (a b:a3):a3:=mk (a.neg !=b.neg) (a.m*b.m) (a.e+b.e)
def gD (d:a3):Int:=if d.m=0 then 0 else if d.neg then -1 else 1
def hp (a b:a3):Int:=gD (dR a (dI b))
def fg (d:a3) (n:Int) (up:Bool):a3:=
 if bc d.m - n≤0 then d else mk d.neg (d.m / 2^(bc d.m - n).toNat+(if up=d.neg then 0 else 1)) (d.e+(bc d.m - n))
theorem lA (neg:Bool) (m:Nat) (e:Int):(mk neg m e).ok:=by
 unfold mk a3.ok
 split
 ·simp
 ·rename_i h
  have:=hJ h
  exact⟨fun e=>by simp only at e;omega,fun _=>this.2⟩
theorem acQ {d:a3} (h:d.ok):mk d.neg d.m d.e=d:=by
 unfold mk
 split
 ·rename_i h0
  obtain⟨a,b⟩:=h.1 h0
  cases d;simp_all
 ·rename_i h0
  have:=h.2 h0
  rw[A4 this]
  cases d;simp
theorem zM {d:a3} (h:d.ok):fx d 0=d:=by
 unfold fx;rw[Int.add_zero,acQ h]
theorem Oz {d:a3} (h:d.ok):mk (!d.neg) d.m d.e=dI d:=by
 unfold mk dI
 split
 ·rename_i h0
  obtain⟨a,b⟩:=h.1 h0
  cases d;simp_all
 ·rename_i h0
  rw[A4 (h.2 h0)]
  simp[h0]
theorem w4 {d:a3} (h:d.ok):(dI d).ok:=by rw[←Oz h];exact lA ..
theorem Fa {a b:a3} (a2:a.ok) (ar:b.ok):(dR a b).ok:=by
 unfold dR
 repeat' split
 all_goals first|assumption|exact lA ..
def dn (neg:Bool) (m:Nat):Int:=if neg then -(m:Int)else m
def a3.V (E:Int) (d:a3):Int:=dn d.neg d.m*2^(d.e - E).toNat
def a3.win (lo hi:Int) (d:a3):Prop:=d.ok∧(d.m≠0→lo≤d.e∧d.e+bc d.m≤hi)
theorem adA (a b:Bool) (m n:Nat):dn a m*dn b n=dn (a !=b) (m*n):=by
 cases a<;>cases b<;>simp[dn,Int.neg_mul,Int.mul_neg]
theorem OA (a:Bool) (m k:Nat):dn a (m*2^k)=dn a m*2^k:=by
 cases a<;>simp[dn,Int.neg_mul]
theorem wV (a:Bool) (m:Nat):(dn a m).natAbs=m:=by cases a<;>simp[dn]
theorem oH {E:Int} (neg:Bool) (m:Nat) {e:Int} (h:E≤e):(mk neg m e).V E=dn neg m*2^(e - E).toNat:=by
 unfold mk
 split
 ·rename_i h0;subst h0;cases neg<;>simp[a3.V,dn]
 ·rename_i h0
  have:=(hJ h0).1
  unfold a3.V
  rw[show (e+(bJ m:Int) - E).toNat=bJ m+(e - E).toNat by omega,Int.pow_add,←Int.mul_assoc,←OA,this]
theorem jd {E:Int} {d:a3} (h:d.m=0):d.V E=0:=by unfold a3.V;rw[h];cases d.neg<;>simp[dn]
theorem SL {E:Int} {d:a3} (h:d.m≠0):d.V E≠0:=by
 intro e
 unfold a3.V at e
 have:=congrArg Int.natAbs e
 rw[Int.natAbs_mul,wV]at this
 rcases Nat.mul_eq_zero.1 this with h1|h1
 ·exact h h1
 ·have h2:((2:Int)^(d.e - E).toNat).natAbs=2^(d.e - E).toNat:=by rw[Int.natAbs_pow];rfl
  rw[h2]at h1
  exact absurd h1 (Nat.ne_of_gt (Nat.two_pow_pos _))
theorem ad7 {E:Int} {a b:a3} (a2:a.ok) (ar:b.ok) (ck:a.m≠0→E≤a.e) (da:b.m≠0→E≤b.e) (h:a.V E=b.V E):a=b:=by
 by_cases h0:a.m=0
 ·have:b.m=0:=Decidable.byContradiction fun h1=>SL h1 (by rw[←h,jd h0])
  obtain⟨x,y⟩:=a2.1 h0
  obtain⟨z,u⟩:=ar.1 this
  cases a;cases b;simp_all
 ·by_cases h1:b.m=0
  ·exact absurd (by rw[h,jd h1]) (SL (E:=E) h0)
  ·have Le:=a2.2 h0
   have b4:=ar.2 h1
   have ck:=ck h0
   have da:=da h1
   have aH:=congrArg Int.natAbs h
   unfold a3.V at aH h
   rw[Int.natAbs_mul,Int.natAbs_mul,wV,wV,Int.natAbs_pow,Int.natAbs_pow]at aH
   have:=LB Le b4 aH
   have he:a.e=b.e:=by omega
   rw[←this.2,←this.1]at h
   have aS:(0:Int)<2^(a.e - E).toNat:=Int.pow_pos (by decide)
   have:=Int.eq_of_mul_eq_mul_right (Int.ne_of_gt aS) h
   have ae3:a.neg=b.neg:=by
    cases uq:a.neg<;>cases akA:b.neg<;>simp[dn,uq,akA]at this<;>first|rfl|omega
   cases a;cases b;simp_all
theorem win.lo {lo hi:Int} {d:a3} (h:d.win lo hi) {E:Int} (l:E≤lo):d.m≠0→E≤d.e:=fun h0=>by have:=(h.2 h0).1;omega
theorem win.up {lo hi lo' hi':Int} {d:a3} (h:d.win lo hi) (l:lo'≤lo) (k:hi≤hi'):d.win lo' hi':=⟨h.1,fun h0=>by have:=h.2 h0;omega⟩
theorem Q3 {E:Int} {d:a3} :gD d=(d.V E).sign:=by
 unfold gD
 split
 ·rename_i h0;rw[jd h0];rfl
 ·rename_i h0
  unfold a3.V
  have aS:(0:Int)<2^(d.e - E).toNat:=Int.pow_pos (by decide)
  rw[Int.sign_mul,Int.sign_eq_one_of_pos aS,Int.mul_one]
  unfold dn
  split
  ·rw[Int.sign_eq_neg_one_of_neg];omega
  ·rw[Int.sign_eq_one_of_pos];omega
theorem Q4 {E:Int} (d:a3):(dI d).V E= - d.V E:=by
 by_cases h0:d.m=0
 ·rw[jd h0,jd (by exact h0)];rfl
 ·unfold a3.V dI
  simp only[h0,ne_eq,not_false_eq_true,decide_true,Bool.and_true]
  rw[←Int.neg_mul]
  congr 1
  unfold dn
  cases d.neg<;>simp
theorem adB {a:Bool} (x y:Nat):dn a (x+y)=dn a x+dn a y:=by cases a<;>simp[dn];omega
theorem Q5 {a b:Bool} (h:a≠b) {x y:Nat} (l:y≤x):dn a (x - y)=dn a x+dn b y:=by
 cases a<;>cases b<;>simp[dn]at* <;>omega
theorem F0 {E:Int} {a b:a3} (ck:a.m≠0→E≤a.e) (da:b.m≠0→E≤b.e):(dR a b).V E=a.V E+b.V E:=by
 unfold dR
 by_cases h0:a.m=0
 ·rw[if_pos h0,jd h0,Int.zero_add]
 ·rw[if_neg h0]
  by_cases h1:b.m=0
  ·rw[if_pos h1,jd h1,Int.add_zero]
  ·rw[if_neg h1]
   have ck:=ck h0
   have da:=da h1
   have le:E≤min a.e b.e:=by omega
   have key:∀d:a3,min a.e b.e≤d.e→dn d.neg (d.m*2^(d.e - min a.e b.e).toNat)*2^(min a.e b.e - E).toNat=d.V E:=fun d aC=>by
    rw[OA,Int.mul_assoc,←Int.pow_add]
    unfold a3.V
    rw[show (d.e - min a.e b.e).toNat+(min a.e b.e - E).toNat=(d.e - E).toNat by omega]
   have Lf:=key a (by omega)
   have Lg:=key b (by omega)
   split
   ·rename_i ay
    rw[oH _ _ le,adB,Int.add_mul,Lf,ay,Lg]
   ·rename_i ay
    split
    ·rename_i aB
     rw[oH _ _ le,Q5 ay aB,Int.add_mul,Lf,Lg]
    ·rename_i aB
     rw[oH _ _ le,Q5 (Ne.symm ay) (by omega),Int.add_mul,Lf,Lg,Int.add_comm]
theorem ad8 {E F:Int} {a b:a3} (ck:a.m≠0→E≤a.e) (da:b.m≠0→F≤b.e):(cH a b).V (E+F)=a.V E*b.V F:=by
 unfold cH
 by_cases h0:a.m=0
 ·rw[jd h0,jd (by unfold mk;rw[h0,Nat.zero_mul,if_pos rfl]),Int.zero_mul]
 ·by_cases h1:b.m=0
  ·rw[jd h1,jd (by unfold mk;rw[h1,Nat.mul_zero,if_pos rfl]),Int.mul_zero]
  ·have ck:=ck h0
   have da:=da h1
   rw[oH _ _ (by omega),←adA,show (a.e+b.e - (E+F)).toNat=(a.e - E).toNat+(b.e - F).toNat by omega,Int.pow_add]
   unfold a3.V
   simp only[Int.mul_assoc,Int.mul_left_comm,Int.mul_comm]
theorem acR {E:Int} {d:a3} (k:Int) (l:d.m≠0→E≤d.e):(fx d k).V (E+k)=d.V E:=by
 unfold fx
 by_cases h0:d.m=0
 ·rw[jd h0,jd (by unfold mk;rw[if_pos h0])]
 ·have l:=l h0
  rw[oH _ _ (by omega)]
  unfold a3.V
  rw[show (d.e+k - (E+k))=d.e - E by omega]
theorem OB {E:Int} (d:a3):(d.V E).natAbs=d.m*2^(d.e - E).toNat:=by
 unfold a3.V
 rw[Int.natAbs_mul,wV,Int.natAbs_pow];rfl
theorem LI {E:Int} {d:a3} (h0:d.m≠0) (l:E≤d.e) (hi:Int):d.e+bc d.m≤hi↔E≤hi∧(d.V E).natAbs<2^(hi - E).toNat:=by
 rw[OB,←hS,j3 h0]
 omega
theorem Fb {neg:Bool} {m:Nat} {e:Int} (h:(mk neg m e).m≠0):m≠0:=fun h0=>h (by unfold mk;rw[if_pos h0])
theorem j9 {neg:Bool} {m:Nat} {e lo:Int} (l:lo≤e):(mk neg m e).m≠0→lo≤(mk neg m e).e:=fun h=>by
 have:=Fb h
 unfold mk
 rw[if_neg this]
 show lo≤e+(bJ m:Int)
 omega
theorem OC {lo hi:Int} {d:a3} (h:d.ok) (l:d.m≠0→lo≤d.e) (k:lo≤hi) (aA:(d.V lo).natAbs<2^(hi - lo).toNat):d.win lo hi:=
 ⟨h,fun h0=>⟨l h0,(LI h0 (l h0) hi).2 ⟨k,aA⟩⟩⟩
theorem SM {lo hi:Int} {d:a3} (h:d.win lo hi):(d.V lo).natAbs<2^(hi - lo).toNat:=by
 by_cases h0:d.m=0
 ·rw[jd h0];exact Nat.two_pow_pos _
 ·have:=h.2 h0
  exact((LI h0 this.1 hi).1 this.2).2
theorem ab7 {lo hi:Int} {d:a3} (h:d.ok) (h0:d.m=0):d.win lo hi:=⟨h,fun h1=>absurd h0 h1⟩
theorem qZ {lo hi:Int} {neg:Bool} {m:Nat} {e:Int} (h:m≠0→lo≤e∧e+bc m≤hi):(mk neg m e).win lo hi:=by
 by_cases h0:m=0
 ·exact ab7 (lA ..) (by unfold mk;rw[if_pos h0])
 ·obtain⟨l,k⟩:=h h0
  refine OC (lA ..) (j9 l) (by omega) ?_
  rw[oH _ _ l,Int.natAbs_mul,wV,Int.natAbs_pow]
  show m*2^(e - lo).toNat<_
  rw[←hS,j3 h0]
  omega
theorem kB {lo hi:Int} {d:a3} (h:d.win lo hi):(dI d).win lo hi:=⟨w4 h.1,h.2⟩
theorem Fc {lo:Int} {a b:a3} (ck:a.m≠0→lo≤a.e) (da:b.m≠0→lo≤b.e):(dR a b).m≠0→lo≤(dR a b).e:=by
 unfold dR
 by_cases h0:a.m=0
 ·rw[if_pos h0];exact da
 ·rw[if_neg h0]
  by_cases h1:b.m=0
  ·rw[if_pos h1];exact ck
  ·rw[if_neg h1]
   have ck:=ck h0
   have da:=da h1
   repeat' split
   all_goals exact j9 (by omega)
theorem Au {lo hi:Int} {a b:a3} (a2:a.win lo hi) (ar:b.win lo hi):(dR a b).win lo (hi+1):=by
 by_cases h0:a.m=0
 ·unfold dR;rw[if_pos h0];exact win.up ar (Int.le_refl _) (by omega)
 ·by_cases h1:b.m=0
  ·unfold dR;rw[if_neg h0,if_pos h1];exact win.up a2 (Int.le_refl _) (by omega)
  ·have:=a2.2 h0
   have aS:=pw h0
   refine OC (Fa a2.1 ar.1) (Fc (win.lo a2 (Int.le_refl _)) (win.lo ar (Int.le_refl _))) (by omega) ?_
   rw[F0 (win.lo a2 (Int.le_refl _)) (win.lo ar (Int.le_refl _))]
   have Lc:=SM a2
   have Ld:=SM ar
   rw[show (hi+1 - lo).toNat=(hi - lo).toNat+1 by omega,Nat.pow_succ]
   omega
theorem w5 {lo hi lo' hi':Int} {a b:a3} (a2:a.win lo hi) (ar:b.win lo' hi'):(cH a b).win (lo+lo') (hi+hi'):=by
 unfold cH
 refine qZ fun h=> ?_
 have h0:a.m≠0:=fun e=>h (by rw[e,Nat.zero_mul])
 have h1:b.m≠0:=fun e=>h (by rw[e,Nat.mul_zero])
 have:=a2.2 h0
 have:=ar.2 h1
 have:=uB a.m b.m
 omega
theorem Ei {lo hi:Int} {d:a3} (h:d.win lo hi) (k:Int):(fx d k).win (lo+k) (hi+k):=by
 unfold fx
 refine qZ fun h0=> ?_
 have:=h.2 h0
 omega
theorem ET {lo hi:Int} {d:a3} (h:d.win lo hi) (n:Int) (aH:0≤n) (up:Bool):(fg d n up).win lo (hi+1):=by
 unfold fg
 split
 ·exact win.up h (Int.le_refl _) (by omega)
 ·rename_i ad
  by_cases h0:d.m=0
  ·rw[h0,j2]at ad;omega
  ·have hw:=h.2 h0
   refine qZ fun _=>⟨by omega,?_⟩
   have ay:=As d.m (bc d.m - n).toNat
   have a2:=sw (d.m / 2^(bc d.m - n).toNat) (if up=d.neg then 0 else 1)
   have h1:bc (if up=d.neg then 0 else 1)≤1:=by split<;>decide
   have:0<bc d.m:=pw h0
   by_cases dj:n=0
   ·subst dj
    have:(↑(bc d.m) - (0:Int)).toNat=bc d.m:=by omega
    rw[this]at*
    rw[Nat.div_eq_of_lt (jb d.m),Nat.zero_add]at*
    omega
   ·omega
theorem R4 {E:Int} {a b:a3} (ck:a.m≠0→E≤a.e) (da:b.m≠0→E≤b.e):hp a b=(a.V E - b.V E).sign:=by
 unfold hp
 rw[Q3 (E:=E),F0 ck (show (dI b).m≠0→E≤(dI b).e from da),Q4,Int.sub_eq_add_neg]
theorem adC {E:Int} {a b:a3} (ck:a.m≠0→E≤a.e) (da:b.m≠0→E≤b.e):hp a b≤0↔a.V E≤b.V E:=by
 rw[R4 ck da,Int.sign_nonpos_iff];omega
theorem adD {E:Int} {a b:a3} (ck:a.m≠0→E≤a.e) (da:b.m≠0→E≤b.e):hp a b<0↔a.V E<b.V E:=by
 rw[R4 ck da,Int.sign_neg_iff];omega
end RV
namespace RV
theorem R5 {n o t:Nat} (h:n=o*2^t) (bh:o % 2=1):bJ n=t:=by
 have h0:n≠0:=fun e=>by
  rw[e]at h
  rcases Nat.mul_eq_zero.1 h.symm with h1|h1
  ·omega
  ·exact absurd h1 (Nat.ne_of_gt (Nat.two_pow_pos t))
 have ay:=hJ h0
 exact(LB ay.2 bh (ay.1.trans h)).2
theorem Ej {n:Nat} (h:n≠0) (k:Nat):bJ (2^k*n)=k+bJ n:=by
 have ay:=hJ h
 refine R5 (o:=n / 2^bJ n) ?_ ay.2
 conv=>lhs;rw[←ay.1]
 rw[Nat.pow_add,Nat.mul_left_comm]
theorem Ab {n:Nat} (h:n≠0):2^bJ n≤n:=by
 have ay:=hJ h
 have h2:=ay.2
 conv=>rhs;rw[←ay.1]
 exact Nat.le_mul_of_pos_left _ (Nat.pos_of_ne_zero fun h=>by rw[h]at h2;cases h2)
theorem pL {n k:Nat} (h:n≠0) (ad:n<2^k):bJ n<k:=(Nat.pow_lt_pow_iff_right (a:=2) (by decide)).1 (Nat.lt_of_le_of_lt (Ab h) ad)
theorem adE {x r:Nat} (h:x≠0) (ah:x<16777216):bJ (x+16777216*r)=bJ x:=by
 have ay:=hJ h
 have ae:=pL (k:=24) h (by simpa using ah)
 have h2:=ay.2
 refine R5 (o:=x / 2^bJ x+2*(2^(23 - bJ x)*r)) ?_ ?_
 ·rw[Nat.add_mul,ay.1]
  congr 1
  have:16777216=2*2^(23 - bJ x)*2^bJ x:=by
   rw[←Nat.pow_succ',←Nat.pow_add,show (23 - bJ x).succ+bJ x=24 by omega]
  rw[show 2*(2^(23 - bJ x)*r)*2^bJ x=2*2^(23 - bJ x)*2^bJ x*r by simp only[Nat.mul_assoc,Nat.mul_left_comm,Nat.mul_comm],←this]
 ·omega
theorem LJ:∀{xs:List Int} {i:Nat},(∀k,k<i→xs.getD k 0=0)→val (xs.take i)=0
 |_,0,_=>by simp[val]
 |[],_+1,_=>by simp[val]
 |x::xs,i+1,h=>by
  have h0:=h 0 (by omega)
  simp only[List.getD_cons_zero]at h0
  rw[List.take_succ_cons,val,h0,LJ (fun k ad=>by have:=h (k+1) (by omega);simpa using this)]
  rfl
theorem ab8 {n i:Nat} (hi:i<(ai n).length) (h:∀k,k<i→(ai n).getD k 0=0) (dX:(ai n).getD i 0≠0):bJ n=24*i+bJ ((ai n).getD i 0).toNat:=by
 have aA:=wT (ai n) i (by omega)
 rw[LJ h,Nat.zero_add,bO,lk]at aA
 have aC:=(cN n).getD i
 have e:n=2^(24*i)*(((ai n).getD i 0).toNat+16777216*val ((ai n).drop (i+1))):=by rw[←q4];exact aA
 conv=>lhs;rw[e]
 rw[Ej (by omega),adE (by omega) (by omega)]
end RV
namespace RV.Dr
open Go RV
set_option linter.unusedSimpArgs false
set_option linter.unusedVariables false
set_option maxRecDepth 100000
set_option maxHeartbeats 4000000
def jk:bq where
 pre:=fun ds=>∃n:Nat,ds=[a7 n]∧(ai n).length≤100000
 res:=fun ds=>match ds with
  |[.ints _ xs]=> .int .i64 (bc (val xs))
  |_=> .nilp
theorem ae4 (Γ:Env) (ds:List D) (h:jk.pre ds):bH Γ BD xX ds fun d=>d=jk.res ds:=by
 obtain⟨n,rfl,hlen⟩:=h
 by_cases h0:n=0
 ·subst h0
  simp (maxSteps:=2000000) only[↓ak,aj,↓reduceIte,reduceCtorEq,Nat.reduceEqDiff,Nat.reduceLeDiff,Nat.reduceSub,Nat.reduceAdd,Int.reduceToNat,Nat.reducePow,Int.reducePow,Int.reduceLE,Int.reduceLT,IntKind.bits,BD,xX,jk,gf,List.length_nil]
  rfl
 ·have aS:=qG h0
  have eW:(((ai n).length:Int)==0)=false:=beq_false_of_ne (by omega)
  have ar:=Oq (cN n) (Ot h0) (DJ h0)
  have aC:=(cN n).getD ((ai n).length - 1)
  have a1:(((ai n).length:Int) - 1).toNat=(ai n).length - 1:=by omega
  have bB:(0:Int)≤((ai n).length:Int) - 1:=by omega
  have cu:((ai n).length - 1)<(ai n).length:=by omega
  simp (maxSteps:=2000000) only[↓ak,aj,↓reduceIte,reduceCtorEq,Nat.reduceEqDiff,Nat.reduceLeDiff,Nat.reduceSub,Nat.reduceAdd,Int.reduceToNat,Nat.reducePow,Int.reducePow,Int.reduceLE,Int.reduceLT,IntKind.bits,BD,xX,jk,eW,a1,bB,cu,bO]
  rw[bO]at ar
  refine⟨by simp only[aG];omega,by simp only[aG];omega,?_⟩
  refine cc (fun s=>s.af 3= .d (.int .i64 (bc n))) ?_ ?_
  ·simp (maxSteps:=2000000) only[↓ak,aj,↓reduceIte,reduceCtorEq,Nat.reduceEqDiff,Nat.reduceLeDiff,Nat.reduceSub,Nat.reduceAdd,Int.reduceToNat,Nat.reducePow,Int.reducePow,Int.reduceLE,Int.reduceLT,IntKind.bits,eW,a1,bB,cu]
   refine⟨?_,by omega,?_⟩
   ·first|omega|(simp only[aG];omega)
   refine eC (fun s=>∃t x:Nat,s.af 3= .d (.int .i64 t)∧s.af 4= .d (.int .i64 x)∧x<16777216∧t≤10000000∧t+bc x=bc n)
    (fun s=>match s.af 4 with| .d (.int _ n)=>n.toNat|_=>0) ?_ ?_
   ·refine⟨24*((ai n).length - 1),((ai n).getD ((ai n).length - 1) 0).toNat,?_⟩
    simp (maxSteps:=2000000) only[↓ak,aj,↓reduceIte,reduceCtorEq,Nat.reduceEqDiff,Nat.reduceLeDiff,Nat.reduceSub,Nat.reduceAdd,Int.reduceToNat,Nat.reducePow,Int.reducePow,Int.reduceLE,Int.reduceLT,IntKind.bits]
    refine⟨?_,?_,by omega,by omega,by omega⟩
    ·congr 3;omega
    ·congr 3;omega
   ·rintro s ⟨t,x,al,aE,ah,ae,aA⟩
    by_cases YR:(x:Int)>0
    ·have dZ:=Nd (n:=x) (by omega)
     have gQ:bc x≤24:=hS.2 (by simpa using ah)
     have alH:=sr n
     have ahv:(x:Int).tdiv 2=((x / 2:Nat):Int):=by rw[Int.tdiv_eq_ediv_of_nonneg (by omega)];omega
     simp (maxSteps:=2000000) only[↓ak,aj,↓reduceIte,reduceCtorEq,Nat.reduceEqDiff,Nat.reduceLeDiff,Nat.reduceSub,Nat.reduceAdd,Int.reduceToNat,Nat.reducePow,Int.reducePow,Int.reduceLE,Int.reduceLT,IntKind.bits,al,aE,YR,ahv]
     repeat (refine And.intro (by first|omega|(simp only[aG];omega)|(simp only[aG]at*;omega)|(simp only[List.length_append,List.length_cons,List.length_nil,List.length_set,bL];omega)) ?_)
     refine⟨⟨t+1,x / 2,by first|rfl|(congr 3),rfl,by omega,by omega,by omega⟩,by omega⟩
    ·simp (maxSteps:=2000000) only[↓ak,aj,↓reduceIte,reduceCtorEq,Nat.reduceEqDiff,Nat.reduceLeDiff,Nat.reduceSub,Nat.reduceAdd,Int.reduceToNat,Nat.reducePow,Int.reducePow,Int.reduceLE,Int.reduceLT,IntKind.bits,al,aE,YR]
     have:x=0:=by omega
     subst this
     rw[j2]at aA
     rw[←aA];rfl
  ·rintro s al
   simp (maxSteps:=2000000) only[↓ak,aj,↓reduceIte,reduceCtorEq,Nat.reduceEqDiff,Nat.reduceLeDiff,Nat.reduceSub,Nat.reduceAdd,Int.reduceToNat,Nat.reducePow,Int.reducePow,Int.reduceLE,Int.reduceLT,IntKind.bits,al,xX]
def nC (xs:List Int):Bool:=(xs.all fun x=>decide (0≤x) && decide (x<16777216)) && (decide (xs.length≤300) && (decide (xs.length=0)||decide (xs.getD (xs.length - 1) 0≠0)))
def nW:bq where
 pre:=fun ds=>∃xs:List Int,ds=[.ints .i64 xs]∧xs.length≤100000
 res:=fun ds=>match ds with
  |[.ints _ xs]=> .bool (nC xs)
  |_=> .nilp
theorem Mc {xs:List Int} {i:Nat} (hi:i<xs.length) (h:xs.getD i 0<0∨xs.getD i 0≥16777216):nC xs=false:=by
 unfold nC
 rw[Bool.and_eq_false_iff]
 left
 rw[List.all_eq_false]
 refine⟨xs[i],List.getElem_mem hi,?_⟩
 rw[List.getD_eq_getElem?_getD,List.getElem?_eq_getElem hi]at h
 simp only[Option.getD_some]at h
 simp only[Bool.and_eq_true,decide_eq_true_eq]
 omega
theorem ahw (Γ:Env) (ds:List D) (h:nW.pre ds):bH Γ J3 J4 ds fun d=>d=nW.res ds:=by
 obtain⟨xs,rfl,hlen⟩:=h
 simp (maxSteps:=2000000) only[↓ak,aj,↓reduceIte,reduceCtorEq,Nat.reduceEqDiff,Nat.reduceLeDiff,Nat.reduceSub,Nat.reduceAdd,Int.reduceToNat,Nat.reducePow,Int.reducePow,Int.reduceLE,Int.reduceLT,IntKind.bits,J3,J4,nW]
 refine cc (fun s=>s.af 0= .d (.ints .i64 xs)∧bQ xs) ?_ ?_
 ·simp (maxSteps:=2000000) only[↓ak,aj,↓reduceIte,reduceCtorEq,Nat.reduceEqDiff,Nat.reduceLeDiff,Nat.reduceSub,Nat.reduceAdd,Int.reduceToNat,Nat.reducePow,Int.reducePow,Int.reduceLE,Int.reduceLT,IntKind.bits]
  refine eC (fun s=>∃i:Nat,s.af 0= .d (.ints .i64 xs)∧s.af 3= .d (.int .i64 i)∧i≤xs.length∧bQ (xs.take i))
   (fun s=>match s.af 3 with| .d (.int _ n)=>xs.length - n.toNat|_=>0) ?_ ?_
  ·refine⟨0,?_⟩
   simp (maxSteps:=2000000) only[↓ak,aj,↓reduceIte,reduceCtorEq,Nat.reduceEqDiff,Nat.reduceLeDiff,Nat.reduceSub,Nat.reduceAdd,Int.reduceToNat,Nat.reducePow,Int.reducePow,Int.reduceLE,Int.reduceLT,IntKind.bits]
   exact⟨rfl,Nat.zero_le _,fun x ah=>by simp at ah⟩
  ·rintro s ⟨i,h0,al,hi,aB⟩
   by_cases ci:(i:Int)<xs.length
   ·have bB:i<xs.length:=by omega
    by_cases hd:xs.getD i 0<0
    ·simp (maxSteps:=2000000) only[↓ak,aj,↓reduceIte,reduceCtorEq,Nat.reduceEqDiff,Nat.reduceLeDiff,Nat.reduceSub,Nat.reduceAdd,Int.reduceToNat,Nat.reducePow,Int.reducePow,Int.reduceLE,Int.reduceLT,IntKind.bits,h0,al,ci,bB,hd]
     exact⟨by omega,by rw[Mc bB (.inl hd)]⟩
    ·by_cases iW:xs.getD i 0≥16777216
     ·simp (maxSteps:=2000000) only[↓ak,aj,↓reduceIte,reduceCtorEq,Nat.reduceEqDiff,Nat.reduceLeDiff,Nat.reduceSub,Nat.reduceAdd,Int.reduceToNat,Nat.reducePow,Int.reducePow,Int.reduceLE,Int.reduceLT,IntKind.bits,h0,al,ci,bB,hd,iW]
      exact⟨by omega,by omega,by rw[Mc bB (.inr iW)]⟩
     ·simp (maxSteps:=2000000) only[↓ak,aj,↓reduceIte,reduceCtorEq,Nat.reduceEqDiff,Nat.reduceLeDiff,Nat.reduceSub,Nat.reduceAdd,Int.reduceToNat,Nat.reducePow,Int.reducePow,Int.reduceLE,Int.reduceLT,IntKind.bits,h0,al,ci,bB,hd,iW]
      refine⟨by omega,by omega,by simp only[aG];omega,⟨i+1,rfl,by omega,?_⟩,by omega⟩
      rw[List.take_add_one,List.getElem?_eq_getElem bB]
      rw[List.getD_eq_getElem?_getD,List.getElem?_eq_getElem bB]at hd iW
      simp only[Option.getD_some]at hd iW
      exact aB.append fun y hy=>by
       simp only[Option.toList_some,List.mem_singleton]at hy
       subst hy;omega
   ·simp (maxSteps:=2000000) only[↓ak,aj,↓reduceIte,reduceCtorEq,Nat.reduceEqDiff,Nat.reduceLeDiff,Nat.reduceSub,Nat.reduceAdd,Int.reduceToNat,Nat.reducePow,Int.reducePow,Int.reduceLE,Int.reduceLT,IntKind.bits,h0,al,ci]
    rw[List.take_of_length_le (by omega)]at aB
    exact aB
 ·rintro s ⟨h0,aB⟩
  have fB:(xs.all fun x=>decide (0≤x) && decide (x<16777216))=true:=by
   rw[List.all_eq_true]
   intro x ah
   have:=aB x ah
   simp only[Bool.and_eq_true,decide_eq_true_eq]
   omega
  have b9:nC xs=(decide (xs.length≤300) && (decide (xs.length=0)||decide (xs.getD (xs.length - 1) 0≠0))):=by
   unfold nC;rw[fB];rfl
  by_cases bB:(xs.length:Int)≤300
  ·have d1:xs.length≤300:=by omega
   by_cases cu:(xs.length:Int)=0
   ·have d2:xs=[]:=List.eq_nil_of_length_eq_zero (by omega)
    subst d2
    simp (maxSteps:=2000000) only[↓ak,aj,↓reduceIte,reduceCtorEq,Nat.reduceEqDiff,Nat.reduceLeDiff,Nat.reduceSub,Nat.reduceAdd,Int.reduceToNat,Nat.reducePow,Int.reducePow,Int.reduceLE,Int.reduceLT,IntKind.bits,h0,b9,List.length_nil,Int.natCast_zero]
   ·have d2:¬xs.length=0:=by omega
    have a1:((xs.length:Int) - 1).toNat=xs.length - 1:=by omega
    have a6:(0:Int)≤(xs.length:Int) - 1:=by omega
    have cU:xs.length - 1<xs.length:=by omega
    have oV:((xs.length:Int)==0)=false:=by simpa using cu
    by_cases eU:xs.getD (xs.length - 1) 0=0
    ·simp (maxSteps:=2000000) only[↓ak,aj,↓reduceIte,reduceCtorEq,Nat.reduceEqDiff,Nat.reduceLeDiff,Nat.reduceSub,Nat.reduceAdd,Int.reduceToNat,Nat.reducePow,Int.reducePow,Int.reduceLE,Int.reduceLT,IntKind.bits,h0,bB,oV,b9,d1,d2,a1,a6,cU,eU]
     repeat (refine And.intro (by first|omega|(simp only[aG];omega)|(simp only[aG]at*;omega)|(simp only[List.length_append,List.length_cons,List.length_nil,List.length_set,bL];omega)) ?_)
     first|omega|simp
    ·simp (maxSteps:=2000000) only[↓ak,aj,↓reduceIte,reduceCtorEq,Nat.reduceEqDiff,Nat.reduceLeDiff,Nat.reduceSub,Nat.reduceAdd,Int.reduceToNat,Nat.reducePow,Int.reducePow,Int.reduceLE,Int.reduceLT,IntKind.bits,h0,bB,oV,b9,d1,d2,a1,a6,cU,eU]
     repeat (refine And.intro (by first|omega|(simp only[aG];omega)|(simp only[aG]at*;omega)|(simp only[List.length_append,List.length_cons,List.length_nil,List.length_set,bL];omega)) ?_)
     simpa using eU
  ·have d1:¬xs.length≤300:=by omega
   simp (maxSteps:=2000000) only[↓ak,aj,↓reduceIte,reduceCtorEq,Nat.reduceEqDiff,Nat.reduceLeDiff,Nat.reduceSub,Nat.reduceAdd,Int.reduceToNat,Nat.reducePow,Int.reducePow,Int.reduceLE,Int.reduceLT,IntKind.bits,h0,bB,b9,d1]
   first|done|rfl
def h3:bq where
 pre:=fun ds=>∃(xs:List Int) (k:Int),ds=[.ints .i64 xs,.int .i64 k]∧bQ xs∧xs.length≤10000∧k≤200000
 res:=fun ds=>match ds with
  |[.ints _ xs,.int _ k]=>a7 (val xs*2^k.toNat)
  |_=> .nilp
theorem ahx (Γ:Env) (f124:Γ.fn 124=some il) (kP:Γ.mt 124=none) (ds:List D) (h:h3.pre ds):bH Γ yG yH ds fun d=>d=h3.res ds:=by
 obtain⟨xs,k,rfl,ah,cP,ad⟩:=h
 by_cases eW:k≤0
 ·simp (maxSteps:=2000000) only[↓ak,aj,↓reduceIte,reduceCtorEq,Nat.reduceEqDiff,Nat.reduceLeDiff,Nat.reduceSub,Nat.reduceAdd,Int.reduceToNat,Nat.reducePow,Int.reducePow,Int.reduceLE,Int.reduceLT,IntKind.bits,yG,yH,h3,eW,f124,kP,il]
  refine⟨⟨xs,rfl,ah,by omega⟩,?_⟩
  rw[show k.toNat=0 by omega,Nat.pow_zero,Nat.mul_one]
 ·by_cases bB:xs=[]
  ·subst bB
   simp (maxSteps:=2000000) only[↓ak,aj,↓reduceIte,reduceCtorEq,Nat.reduceEqDiff,Nat.reduceLeDiff,Nat.reduceSub,Nat.reduceAdd,Int.reduceToNat,Nat.reducePow,Int.reducePow,Int.reduceLE,Int.reduceLT,IntKind.bits,yG,yH,h3,eW,f124,kP,il,List.length_nil,Int.natCast_zero]
   exact⟨⟨[],rfl,ah,by simp⟩,by simp[val]⟩
  ·have cu:((xs.length:Int)==0)=false:=beq_false_of_ne (by have:=List.length_pos_iff.2 bB;omega)
   have d1:k.tdiv 24=k / 24:=Int.tdiv_eq_ediv_of_nonneg (by omega)
   have d2:k.tmod 24=k % 24:=Int.tmod_eq_emod_of_nonneg (by omega)
   have d3:(k % 24).toNat≤64:=by omega
   obtain⟨q,aZ,mO⟩:=Nf (k:=k) (by omega)
   have jN:=Mb (k:=k) (by omega)
   obtain⟨p,aS⟩:∃p:Nat,p=2^(k % 24).toNat:=⟨_,rfl⟩
   have d4:(1:Int)*2^(k % 24).toNat=(p:Int):=by rw[aS,Int.one_mul,Int.natCast_pow];rfl
   rw[←aS]at aZ jN
   have eM:0<p:=by rw[aS];exact Nat.two_pow_pos _
   have iJ:p≤8388608:=by
    have:p*2≤p*q:=Nat.mul_le_mul_left _ mO
    omega
   obtain⟨Q,cn⟩:∃Q:Nat,Q=(k / 24).toNat:=⟨_,rfl⟩
   have d5:k / 24=(Q:Int):=by omega
   rw[←cn]at jN
   simp (maxSteps:=2000000) only[↓ak,aj,↓reduceIte,reduceCtorEq,Nat.reduceEqDiff,Nat.reduceLeDiff,Nat.reduceSub,Nat.reduceAdd,Int.reduceToNat,Nat.reducePow,Int.reducePow,Int.reduceLE,Int.reduceLT,IntKind.bits,yG,yH,h3,eW,cu,f124,kP,il,d1,d2,d3,d4,d5]
   repeat (refine And.intro (by first|omega|(simp only[aG];omega)|(simp only[aG]at*;omega)|(simp only[List.length_append,List.length_cons,List.length_nil,List.length_set,bL];omega)) ?_)
   refine cc (fun s=>∃(out:List Int) (c:Nat),s.af 5= .own 21 0 out.length∧s.aw 21=some ⟨false,false,.ints .i64 out⟩∧s.af 7= .d (.int .i64 c)∧c<16777216∧
    bQ out∧out.length=Q+xs.length∧val out+16777216^(Q+xs.length)*c=16777216^Q*(p*val xs)) ?_ ?_
   ·simp (maxSteps:=2000000) only[↓ak,aj,↓reduceIte,reduceCtorEq,Nat.reduceEqDiff,Nat.reduceLeDiff,Nat.reduceSub,Nat.reduceAdd,Int.reduceToNat,Nat.reducePow,Int.reducePow,Int.reduceLE,Int.reduceLT,IntKind.bits,cu,d1,d2]
    refine eC (fun s=>∃(out:List Int) (c i:Nat),s.af 0= .d (.ints .i64 xs)∧s.af 5= .own 21 0 out.length∧s.aw 21=some ⟨false,false,.ints .i64 out⟩∧s.af 6= .d (.int .i64 p)∧s.af 7= .d (.int .i64 c)∧s.af 8= .d (.int .i64 i)∧c<16777216∧
     bQ out∧i≤xs.length∧out.length=Q+i∧val out+16777216^(Q+i)*c=16777216^Q*(p*val (xs.take i)))
     (fun s=>match s.af 8 with| .d (.int _ n)=>xs.length - n.toNat|_=>0) ?_ ?_
    ·refine⟨List.replicate Q 0,0,0,?_⟩
     simp (maxSteps:=2000000) only[↓ak,aj,↓reduceIte,reduceCtorEq,Nat.reduceEqDiff,Nat.reduceLeDiff,Nat.reduceSub,Nat.reduceAdd,Int.reduceToNat,Nat.reducePow,Int.reducePow,Int.reduceLE,Int.reduceLT,IntKind.bits,Int.toNat_natCast,List.length_replicate]
     repeat (refine And.intro (by first|omega|(simp only[aG];omega)|(simp only[aG]at*;omega)|(simp only[List.length_append,List.length_cons,List.length_nil,List.length_set,bL];omega)) ?_)
     refine⟨fun x ah=> ?_,?_⟩
     rotate_left
     repeat (refine And.intro (by first|omega|(simp only[aG];omega)|(simp only[aG]at*;omega)|(simp only[List.length_append,List.length_cons,List.length_nil,List.length_set,bL];omega)) ?_)
     ·rw[uH];simp[val]
     rw[List.eq_of_mem_replicate ah];decide
    ·rintro s ⟨out,c,i,h0,aI,p8,aM,a4,bz,ao,aB,hi,hlen,aA⟩
     by_cases ci:(i:Int)<xs.length
     ·have k1:=ah.getD i
      have a1:i<xs.length:=by omega
      have pK:xs.getD i 0*(p:Int)=(((xs.getD i 0).toNat*p:Nat):Int):=by rw[Int.natCast_mul,Int.toNat_of_nonneg k1.1]
      have p7:(xs.getD i 0).toNat*p≤16777215*8388608:=Nat.mul_le_mul (by omega) iJ
      simp (maxSteps:=2000000) only[↓ak,aj,↓reduceIte,reduceCtorEq,Nat.reduceEqDiff,Nat.reduceLeDiff,Nat.reduceSub,Nat.reduceAdd,Int.reduceToNat,Nat.reducePow,Int.reducePow,Int.reduceLE,Int.reduceLT,IntKind.bits,h0,aI,p8,aM,a4,bz,ci,a1,pK]
      generalize jy:((((xs.getD i 0).toNat*p:Nat):Int)+(c:Int))=S
      have er:=Ow (out:=out) (c:=c) (p:=p) (x:=(xs.getD i 0).toNat) (s:=S) (by omega) hlen aA
      have vM:0≤S:=by omega
      have a6:S.tdiv 16777216=S / 16777216:=Int.tdiv_eq_ediv_of_nonneg vM
      have cU:S.tmod 16777216=S % 16777216:=Int.tmod_eq_emod_of_nonneg vM
      rw[a6,cU]at er
      simp only[a6,cU]
      repeat (refine And.intro (by first|omega|(simp only[aG];omega)|(simp only[aG]at*;omega)|(simp only[List.length_append,List.length_cons,List.length_nil,List.length_set,bL];omega)) ?_)
      refine⟨⟨out++[S % 16777216],(S / 16777216).toNat,i+1,?_⟩,by omega⟩
      simp only[List.length_append,List.length_cons,List.length_nil,Nat.zero_add]
      refine⟨by first|rfl|trivial,by first|rfl|trivial,?_,?_,by omega,aB.snoc (by omega) (by omega),by omega,by omega,?_⟩
      ·congr 3;omega
      ·congr 3
      ·rw[ux a1,←Nat.add_assoc];exact er
     ·simp (maxSteps:=2000000) only[↓ak,aj,↓reduceIte,reduceCtorEq,Nat.reduceEqDiff,Nat.reduceLeDiff,Nat.reduceSub,Nat.reduceAdd,Int.reduceToNat,Nat.reducePow,Int.reducePow,Int.reduceLE,Int.reduceLT,IntKind.bits,h0,aI,p8,aM,a4,bz,ci]
      have:i=xs.length:=by omega
      subst this
      rw[List.take_length]at aA
      exact⟨out,c,rfl,rfl,rfl,ao,aB,hlen,aA⟩
   ·rintro s ⟨out,c,aI,p8,a4,ao,aB,hlen,aA⟩
    simp (maxSteps:=2000000) only[↓ak,aj,↓reduceIte,reduceCtorEq,Nat.reduceEqDiff,Nat.reduceLeDiff,Nat.reduceSub,Nat.reduceAdd,Int.reduceToNat,Nat.reducePow,Int.reducePow,Int.reduceLE,Int.reduceLT,IntKind.bits,aI,p8,a4,f124,kP,il]
    repeat (refine And.intro (by first|omega|(simp only[aG];omega)|(simp only[aG]at*;omega)|(simp only[List.length_append,List.length_cons,List.length_nil,List.length_set,bL];omega)) ?_)
    rw[List.take_length]
    refine⟨⟨_,rfl,aB.snoc (by omega) (by omega),by simp only[List.length_append,List.length_cons,List.length_nil];omega⟩,?_⟩
    rw[qQ,hlen,Int.toNat_natCast,aA,←jN,←Nat.mul_assoc,Nat.mul_comm]
def jt:bq where
 pre:=fun ds=>∃(xs:List Int) (k:Int),ds=[.ints .i64 xs,.int .i64 k]∧bQ xs∧xs.length≤20000∧k≤2000000
 res:=fun ds=>match ds with
  |[.ints _ xs,.int _ k]=>a7 (val xs / 2^k.toNat)
  |_=> .nilp
theorem ahy (Γ:Env) (f124:Γ.fn 124=some il) (kP:Γ.mt 124=none) (f125:Γ.fn 125=some nK) (vq:Γ.mt 125=none) (ds:List D) (h:jt.pre ds):bH Γ CQ CR ds fun d=>d=jt.res ds:=by
 obtain⟨xs,k,rfl,ah,cP,ad⟩:=h
 by_cases eW:k≤0
 ·simp (maxSteps:=2000000) only[↓ak,aj,↓reduceIte,reduceCtorEq,Nat.reduceEqDiff,Nat.reduceLeDiff,Nat.reduceSub,Nat.reduceAdd,Int.reduceToNat,Nat.reducePow,Int.reducePow,Int.reduceLE,Int.reduceLT,IntKind.bits,CQ,CR,jt,eW,f124,kP,il]
  refine⟨⟨xs,rfl,ah,by omega⟩,?_⟩
  rw[show k.toNat=0 by omega,Nat.pow_zero,Nat.div_one]
 ·have d1:k.tdiv 24=k / 24:=Int.tdiv_eq_ediv_of_nonneg (by omega)
  have d2:k.tmod 24=k % 24:=Int.tmod_eq_emod_of_nonneg (by omega)
  have d3:(k % 24).toNat≤64:=by omega
  obtain⟨q,aZ,mO⟩:=Nf (k:=k) (by omega)
  have jN:=Mb (k:=k) (by omega)
  obtain⟨p,aS⟩:∃p:Nat,p=2^(k % 24).toNat:=⟨_,rfl⟩
  have d4:(1:Int)*2^(k % 24).toNat=(p:Int):=by rw[aS,Int.one_mul,Int.natCast_pow];rfl
  rw[←aS]at aZ jN
  have eM:0<p:=by rw[aS];exact Nat.two_pow_pos _
  have iJ:p≤8388608:=by
   have:p*2≤p*q:=Nat.mul_le_mul_left _ mO
   omega
  obtain⟨Q,cn⟩:∃Q:Nat,Q=(k / 24).toNat:=⟨_,rfl⟩
  have d5:k / 24=(Q:Int):=by omega
  rw[←cn]at jN
  simp (maxSteps:=2000000) only[↓ak,aj,↓reduceIte,reduceCtorEq,Nat.reduceEqDiff,Nat.reduceLeDiff,Nat.reduceSub,Nat.reduceAdd,Int.reduceToNat,Nat.reducePow,Int.reducePow,Int.reduceLE,Int.reduceLT,IntKind.bits,CQ,CR,jt,eW,f124,kP,il,d1,d2,d3,d4,d5]
  repeat (refine And.intro (by first|omega|(simp only[aG];omega)|(simp only[aG]at*;omega)|(simp only[List.length_append,List.length_cons,List.length_nil,List.length_set,bL];omega)) ?_)
  refine cc (fun s=>∃out:List Int,s.af 7= .own 7 0 out.length∧s.aw 7=some ⟨false,false,.ints .i64 out⟩∧bQ out∧out.length≤20000∧val out=val (xs.drop Q) / p) ?_ ?_
  ·simp (maxSteps:=2000000) only[↓ak,aj,↓reduceIte,reduceCtorEq,Nat.reduceEqDiff,Nat.reduceLeDiff,Nat.reduceSub,Nat.reduceAdd,Int.reduceToNat,Nat.reducePow,Int.reducePow,Int.reduceLE,Int.reduceLT,IntKind.bits]
   refine eC (fun s=>∃out:List Int,s.af 0= .d (.ints .i64 xs)∧s.af 6= .d (.int .i64 p)∧s.af 7= .own 7 0 out.length∧s.aw 7=some ⟨false,false,.ints .i64 out⟩∧s.af 8= .d (.int .i64 (Q+out.length:Nat))∧
    bQ out∧(out.length=0∨Q+out.length≤xs.length)∧val out+16777216^out.length*(val (xs.drop (Q+out.length)) / p)=val (xs.drop Q) / p)
    (fun s=>match s.af 8 with| .d (.int _ n)=>xs.length - n.toNat|_=>0) ?_ ?_
   ·refine⟨[],?_⟩
    simp (maxSteps:=2000000) only[↓ak,aj,↓reduceIte,reduceCtorEq,Nat.reduceEqDiff,Nat.reduceLeDiff,Nat.reduceSub,Nat.reduceAdd,Int.reduceToNat,Nat.reducePow,Int.reducePow,Int.reduceLE,Int.reduceLT,IntKind.bits,List.length_nil,Nat.add_zero]
    refine⟨?_,?_⟩
    ·intro x ah;cases ah
    ·repeat (refine And.intro (by first|omega|(simp only[aG];omega)|(simp only[aG]at*;omega)|(simp only[List.length_append,List.length_cons,List.length_nil,List.length_set,bL];omega)) ?_)
     simp[val]
   ·rintro s ⟨out,h0,aM,a4,cz,bz,aB,hlen,aA⟩
    by_cases ci:((Q+out.length:Nat):Int)<xs.length
    ·have k1:=ah.getD (Q+out.length)
     have yL:=ah.getD (Q+out.length+1)
     have a1:Q+out.length<xs.length:=by omega
     obtain⟨x,hF⟩:∃x:Nat,xs.getD (Q+out.length) 0=(x:Int):=⟨_,(Int.toNat_of_nonneg k1.1).symm⟩
     obtain⟨y,hg⟩:∃y:Nat,xs.getD (Q+out.length+1) 0=(y:Int):=⟨_,(Int.toNat_of_nonneg yL.1).symm⟩
     have a6:¬((p:Int)=0):=by omega
     have cU:(x:Int).tdiv p=((x / p:Nat):Int):=Int.ofNat_tdiv x p
     have cx:(y:Int).tmod p=((y % p:Nat):Int):=Int.ofNat_tmod y p
     have dx:(16777216:Int).tdiv p=(q:Int):=by
      have:(16777216:Int)=((16777216:Nat):Int):=rfl
      rw[this,←aZ,←Int.ofNat_tdiv,Nat.mul_div_cancel_left _ eM]
     have eJ:((Q+out.length:Nat):Int)+1=((Q+out.length+1:Nat):Int):=by omega
     have zf:((y % p:Nat):Int)*(q:Int)=((y % p*q:Nat):Int):=by rw[Int.natCast_mul]
     have jY:((x / p:Nat):Int)+((y % p*q:Nat):Int)=((x / p+y % p*q:Nat):Int):=by rw[Int.natCast_add]
     have p7:=Ov eM aZ (x:=x) (by omega) y
     have er:=Ou eM aZ x (val (xs.drop (Q+out.length+1)))
     rw[Ma aZ,hg,Int.toNat_natCast]at er
     rw[lk xs (Q+out.length),hF,Int.toNat_natCast,er]at aA
     have tN:q≤16777216:=by
      have:1*q≤p*q:=Nat.mul_le_mul_right _ eM
      omega
     have hle:x / p≤x:=Nat.div_le_self _ _
     simp (maxSteps:=2000000) only[↓ak,aj,↓reduceIte,reduceCtorEq,Nat.reduceEqDiff,Nat.reduceLeDiff,Nat.reduceSub,Nat.reduceAdd,Int.reduceToNat,Nat.reducePow,Int.reducePow,Int.reduceLE,Int.reduceLT,IntKind.bits,h0,aM,a4,cz,bz,ci,a1,hF,a6,cU,cx,dx,f125,vq,nK,eJ,Int.toNat_natCast,hg,zf,jY]
     generalize x / p=U at*
     generalize y % p*q=W at*
     repeat (refine And.intro (by first|omega|(simp only[aG];omega)|(simp only[aG]at*;omega)|(simp only[List.length_append,List.length_cons,List.length_nil,List.length_set,bL];omega)) ?_)
     refine⟨⟨xs,Q+out.length+1,rfl⟩,?_⟩
     repeat (refine And.intro (by first|omega|(simp only[aG];omega)|(simp only[aG]at*;omega)|(simp only[List.length_append,List.length_cons,List.length_nil,List.length_set,bL];omega)) ?_)
     refine⟨⟨out++[((U+W:Nat):Int)],rfl,rfl,?_,?_⟩,by omega⟩
     ·simp only[List.length_append,List.length_cons,List.length_nil];omega
     ·refine⟨aB.snoc (by omega) (by omega),.inr (by simp only[List.length_append,List.length_cons,List.length_nil];omega),?_⟩
      rw[qQ,Int.toNat_natCast,List.length_append,List.length_singleton,←aA,Nat.pow_succ,←Nat.add_assoc Q,Nat.mul_assoc,Nat.add_assoc,←Nat.mul_add]
    ·simp (maxSteps:=2000000) only[↓ak,aj,↓reduceIte,reduceCtorEq,Nat.reduceEqDiff,Nat.reduceLeDiff,Nat.reduceSub,Nat.reduceAdd,Int.reduceToNat,Nat.reducePow,Int.reducePow,Int.reduceLE,Int.reduceLT,IntKind.bits,h0,aM,a4,cz,bz,ci]
     refine⟨out,rfl,rfl,aB,by omega,?_⟩
     rw[←aA,List.drop_of_length_le (by omega)]
     simp[val]
  ·rintro s ⟨out,a4,cz,aB,hlen,aA⟩
   simp (maxSteps:=2000000) only[↓ak,aj,↓reduceIte,reduceCtorEq,Nat.reduceEqDiff,Nat.reduceLeDiff,Nat.reduceSub,Nat.reduceAdd,Int.reduceToNat,Nat.reducePow,Int.reducePow,Int.reduceLE,Int.reduceLT,IntKind.bits,a4,cz,f124,kP,il]
   rw[List.take_length]
   refine⟨⟨_,rfl,aB,by omega⟩,?_⟩
   rw[aA,zE ah,Nat.div_div_eq_div_mul,jN]
def aR (x:a3):D:= .agg [.bool x.neg,a7 x.m,.int .i64 x.e]
def dO:D→a3
 | .agg [.bool a,.ints _ xs,.int _ e]=>⟨a,val xs,e⟩
 |_=>⟨false,0,0⟩
theorem b0 (x:a3):dO (.agg [.bool x.neg,.ints .i64 (ai x.m),.int .i64 x.e])=x:=by
 simp only[dO,bO]
def cv (x:a3):Prop:=x.win (-50000) 50000
theorem gy (n:Nat):(ai n).length≤bc n / 24+1:=by
 refine qN (Nat.lt_of_lt_of_le (jb n) ?_)
 rw[q4]
 exact Nat.pow_le_pow_right (by decide) (by omega)
theorem kI {x:a3} (h:cv x):bc x.m≤100000:=by
 by_cases h0:x.m=0
 ·rw[h0,j2];omega
 ·have:=h.2 h0;omega
theorem ie {x:a3} (h:cv x):(ai x.m).length≤4200:=by
 have:=kI h
 have:=gy x.m
 omega
theorem iM {x:a3} (h:cv x): -50000≤x.e∧x.e≤50000:=by
 by_cases h0:x.m=0
 ·have:=(h.1.1 h0).2;omega
 ·have:=h.2 h0;omega
theorem Dq {n:Nat} (h:n=0):((ai n).length:Int)=0:=by rw[h,gf];rfl
theorem rN {n:Nat} (h:n≠0):(((ai n).length:Int)==0)=false:=beq_false_of_ne (by have:=qG h;omega)
theorem yM {n:Nat} (h:n=0):(((ai n).length:Int)==0)=true:=by rw[Dq h];rfl
def nX:bq where
 pre:=fun ds=>∃x:a3,ds=[aR x]
 res:=fun ds=>match ds with
  |[p]=> .int .i64 (gD (dO p))
  |_=> .nilp
theorem ahz (Γ:Env) (ds:List D) (h:nX.pre ds):bH Γ yA yB ds fun d=>d=nX.res ds:=by
 obtain⟨x,rfl⟩:=h
 by_cases h0:x.m=0
 ·have ah:gD x=0:=by unfold gD;rw[if_pos h0]
  simp (maxSteps:=2000000) only[↓ak,aj,↓reduceIte,reduceCtorEq,Nat.reduceEqDiff,Nat.reduceLeDiff,Nat.reduceSub,Nat.reduceAdd,Int.reduceToNat,Nat.reducePow,Int.reducePow,Int.reduceLE,Int.reduceLT,IntKind.bits,yA,yB,nX,aR,b0,yM h0,ah]
 ·cases aH:x.neg with
  |true=>
   have ah:gD x= -1:=by unfold gD;rw[if_neg h0,aH];rfl
   have hy:=b0 x
   rw[aH]at hy
   simp (maxSteps:=2000000) only[↓ak,aj,↓reduceIte,reduceCtorEq,Nat.reduceEqDiff,Nat.reduceLeDiff,Nat.reduceSub,Nat.reduceAdd,Int.reduceToNat,Nat.reducePow,Int.reducePow,Int.reduceLE,Int.reduceLT,IntKind.bits,yA,yB,nX,aR,aH,hy,rN h0,ah]
  |false=>
   have ah:gD x=1:=by unfold gD;rw[if_neg h0,aH];rfl
   have hy:=b0 x
   rw[aH]at hy
   simp (maxSteps:=2000000) only[↓ak,aj,↓reduceIte,reduceCtorEq,Nat.reduceEqDiff,Nat.reduceLeDiff,Nat.reduceSub,Nat.reduceAdd,Int.reduceToNat,Nat.reducePow,Int.reducePow,Int.reduceLE,Int.reduceLT,IntKind.bits,yA,yB,nX,aR,aH,hy,rN h0,ah]
def h4:bq where
 pre:=fun ds=>∃x:a3,ds=[aR x]
 res:=fun ds=>match ds with
  |[p]=>aR (dI (dO p))
  |_=> .nilp
theorem ahA (Γ:Env) (ds:List D) (h:h4.pre ds):bH Γ ys yt ds fun d=>d=h4.res ds:=by
 obtain⟨x,rfl⟩:=h
 have hy:=b0 x
 cases aH:x.neg with
 |true=>
  rw[aH]at hy
  simp (maxSteps:=2000000) only[↓ak,aj,↓reduceIte,reduceCtorEq,Nat.reduceEqDiff,Nat.reduceLeDiff,Nat.reduceSub,Nat.reduceAdd,Int.reduceToNat,Nat.reducePow,Int.reducePow,Int.reduceLE,Int.reduceLT,IntKind.bits,ys,yt,h4,aR,aH,hy,dI]
 |false=>
  rw[aH]at hy
  by_cases h0:x.m=0
  ·have c:¬((ai x.m).length:Int)>0:=by rw[Dq h0];omega
   simp (maxSteps:=2000000) only[↓ak,aj,↓reduceIte,reduceCtorEq,Nat.reduceEqDiff,Nat.reduceLeDiff,Nat.reduceSub,Nat.reduceAdd,Int.reduceToNat,Nat.reducePow,Int.reducePow,Int.reduceLE,Int.reduceLT,IntKind.bits,ys,yt,h4,aR,aH,hy,dI,c]
   simp[h0]
  ·have c:((ai x.m).length:Int)>0:=by have:=qG h0;omega
   simp (maxSteps:=2000000) only[↓ak,aj,↓reduceIte,reduceCtorEq,Nat.reduceEqDiff,Nat.reduceLeDiff,Nat.reduceSub,Nat.reduceAdd,Int.reduceToNat,Nat.reducePow,Int.reducePow,Int.reduceLE,Int.reduceLT,IntKind.bits,ys,yt,h4,aR,aH,hy,dI,c]
   simp[h0]
def dE:bq where
 pre:=fun ds=>∃(b:Bool) (m:Nat) (e:Int),ds=[.bool b,a7 m,.int .i64 e]∧(ai m).length≤20000∧-1000000≤e∧e≤1000000
 res:=fun ds=>match ds with
  |[.bool b,.ints _ xs,.int _ e]=>aR (mk b (val xs) e)
  |_=> .nilp
theorem ahB (Γ:Env) (f88:Γ.fn 88=some jt) (J8:Γ.mt 88=none) (ds:List D) (h:dE.pre ds):bH Γ CK CL ds fun d=>d=dE.res ds:=by
 obtain⟨b,m,e,rfl,aB,HZ,H0⟩:=h
 by_cases h0:m=0
 ·subst h0
  have hm:mk b (val []) e=⟨false,0,0⟩:=by simp[mk,val]
  simp (maxSteps:=2000000) only[↓ak,aj,↓reduceIte,reduceCtorEq,Nat.reduceEqDiff,Nat.reduceLeDiff,Nat.reduceSub,Nat.reduceAdd,Int.reduceToNat,Nat.reducePow,Int.reducePow,Int.reduceLE,Int.reduceLT,IntKind.bits,CK,CL,dE,aR,gf,List.length_nil,Int.natCast_zero,beq_self_eq_true,hm]
 ·have mL:=sr m
  have ahC:bJ m<bc m:=by
   have h1:=(hJ h0).1
   have h2:=(hJ h0).2
   have al:2^bJ m≤m:=by
    conv=>rhs;rw[←h1]
    exact Nat.le_mul_of_pos_left _ (Nat.pos_of_ne_zero fun h=>by rw[h]at h2;cases h2)
   have aE:=jb m
   exact(Nat.pow_lt_pow_iff_right (by decide)).1 (Nat.lt_of_le_of_lt al aE)
  have mP:∀k:Nat,k≤bJ m→m / 2^k≠0:=fun k ad h=>by
   have aE:m<2^k:=(Nat.div_eq_zero_iff_lt (Nat.two_pow_pos k)).1 h
   have h1:=(hJ h0).1
   have h2:=(hJ h0).2
   have al:2^bJ m≤m:=by
    conv=>rhs;rw[←h1]
    exact Nat.le_mul_of_pos_left _ (Nat.pos_of_ne_zero fun h=>by rw[h]at h2;cases h2)
   have:=(Nat.pow_lt_pow_iff_right (a:=2) (by decide)).1 (Nat.lt_of_le_of_lt al aE)
   omega
  simp (maxSteps:=2000000) only[↓ak,aj,↓reduceIte,reduceCtorEq,Nat.reduceEqDiff,Nat.reduceLeDiff,Nat.reduceSub,Nat.reduceAdd,Int.reduceToNat,Nat.reducePow,Int.reducePow,Int.reduceLE,Int.reduceLT,IntKind.bits,CK,CL,dE,rN h0,aR,bO]
  refine cc (fun s=>s.af 0= .d (.bool b)∧s.af 1= .d (.ints .i64 (ai m))∧s.af 2= .d (.int .i64 e)∧s.af 6= .box 6 0∧s.af 7= .d (.int .i64 (bJ m))∧∃cs,s.aw 6=some ⟨false,false,.cells cs⟩∧cs.length=3) ?_ ?_
  ·refine EP (fun s=>∃k:Nat,s.af 0= .d (.bool b)∧s.af 1= .d (.ints .i64 (ai m))∧s.af 2= .d (.int .i64 e)∧s.af 6= .box 6 0∧s.af 7= .d (.int .i64 k)∧k≤bJ m∧∃cs,s.aw 6=some ⟨false,false,.cells cs⟩∧cs.length=3) (fun s=>match s.af 7 with| .d (.int _ k)=>bJ m - k.toNat|_=>0) ?_ ?_
   ·refine⟨0,?_⟩
    simp (maxSteps:=2000000) only[↓ak,aj,↓reduceIte,reduceCtorEq,Nat.reduceEqDiff,Nat.reduceLeDiff,Nat.reduceSub,Nat.reduceAdd,Int.reduceToNat,Nat.reducePow,Int.reducePow,Int.reduceLE,Int.reduceLT,IntKind.bits]
    exact⟨rfl,Nat.zero_le _,_,rfl,rfl⟩
   ·rintro s ⟨k,yN,h1,h2,aM,a4,ad,cs,a0,eO⟩
    have dX:=mP k ad
    have aS:=qG dX
    have bB:(0:Int)<(ai (m / 2^k)).length:=by omega
    have bb:=MA (m / 2^k) 0
    rw[Nat.pow_zero,Nat.div_one]at bb
    have SN:((m / 2^k % 16777216:Nat):Int).tmod 2=((m / 2^k % 2:Nat):Int):=by
     rw[Int.tmod_eq_emod_of_nonneg (by omega)];omega
    by_cases gm:k=bJ m
    ·have bh:=(hJ h0).2
     rw[←gm]at bh
     have cu:(((m / 2^k % 2:Nat):Int)==0)=false:=by rw[bh];rfl
     simp (maxSteps:=2000000) only[↓ak,aj,↓reduceIte,reduceCtorEq,Nat.reduceEqDiff,Nat.reduceLeDiff,Nat.reduceSub,Nat.reduceAdd,Int.reduceToNat,Nat.reducePow,Int.reducePow,Int.reduceLE,Int.reduceLT,IntKind.bits,yN,h1,h2,aM,a4,a0,f88,J8,jt,bO,Int.toNat_natCast,bB,bb,SN,cu]
     exact⟨⟨ai m,k,rfl,cN m,aB,by omega⟩,by decide,by rw[gm],cs,rfl,eO⟩
    ·have bh:m / 2^k % 2=0:=by
      have h1:=(hJ h0).1
      have:m / 2^k=m / 2^bJ m*2^(bJ m - k - 1)*2:=by
       refine Nat.div_eq_of_eq_mul_left (Nat.two_pow_pos k) ?_
       conv=>lhs;rw[←h1]
       rw[Nat.mul_assoc,Nat.mul_assoc,←Nat.pow_succ',←Nat.pow_add]
       congr 2;omega
      omega
     have cu:(((m / 2^k % 2:Nat):Int)==0)=true:=by rw[bh];rfl
     simp (maxSteps:=2000000) only[↓ak,aj,↓reduceIte,reduceCtorEq,Nat.reduceEqDiff,Nat.reduceLeDiff,Nat.reduceSub,Nat.reduceAdd,Int.reduceToNat,Nat.reducePow,Int.reducePow,Int.reduceLE,Int.reduceLT,IntKind.bits,yN,h1,h2,aM,a4,a0,f88,J8,jt,bO,Int.toNat_natCast,bB,bb,SN,cu]
     refine⟨⟨ai m,k,rfl,cN m,aB,by omega⟩,by decide,?_⟩
     repeat (refine And.intro (by first|omega|(simp only[aG];omega)|(simp only[aG]at*;omega)|(simp only[List.length_append,List.length_cons,List.length_nil,List.length_set,bL];omega)) ?_)
     exact⟨⟨k+1,by omega,by omega,cs,rfl,eO⟩,by omega⟩
  ·rintro s ⟨yN,h1,h2,aM,a4,cs,a0,eO⟩
   match cs,eO with
   |[m7,m5,YS],_=>
   simp (maxSteps:=2000000) only[↓ak,aj,↓reduceIte,reduceCtorEq,Nat.reduceEqDiff,Nat.reduceLeDiff,Nat.reduceSub,Nat.reduceAdd,Int.reduceToNat,Nat.reducePow,Int.reducePow,Int.reduceLE,Int.reduceLT,IntKind.bits,yN,h1,h2,aM,a4,a0,f88,J8,jt,bO,Int.toNat_natCast]
   refine⟨⟨ai m,bJ m,rfl,cN m,aB,by omega⟩,?_⟩
   repeat (refine And.intro (by first|omega|(simp only[aG];omega)|(simp only[aG]at*;omega)|(simp only[List.length_append,List.length_cons,List.length_nil,List.length_set,bL];omega)) ?_)
   unfold mk
   rw[if_neg h0]
theorem qV {n:Nat} (h:bc n≤400000):(ai n).length≤20000:=by
 have:=gy n
 omega
def vN:bq where
 pre:=fun ds=>∃(x:a3) (k:Int),ds=[aR x,.int .i64 k]∧cv x∧-100000≤k∧k≤100000
 res:=fun ds=>match ds with
  |[p,.int _ k]=>aR (fx (dO p) k)
  |_=> .nilp
theorem ahD (Γ:Env) (f76:Γ.fn 76=some dE) (oW:Γ.mt 76=none) (ds:List D) (h:vN.pre ds):bH Γ Jw Jy ds fun d=>d=vN.res ds:=by
 obtain⟨x,k,rfl,ah,vx,tw⟩:=h
 have he:=iM ah
 have aB:=ie ah
 simp (maxSteps:=2000000) only[↓ak,aj,↓reduceIte,reduceCtorEq,Nat.reduceEqDiff,Nat.reduceLeDiff,Nat.reduceSub,Nat.reduceAdd,Int.reduceToNat,Nat.reducePow,Int.reducePow,Int.reduceLE,Int.reduceLT,IntKind.bits,Jw,Jy,vN,aR,b0,fx,f76,oW,dE,bO]
 repeat (refine And.intro (by first|omega|(simp only[aG];omega)|(simp only[aG]at*;omega)|(simp only[List.length_append,List.length_cons,List.length_nil,List.length_set,bL];omega)) ?_)
 exact⟨x.neg,x.m,x.e+k,rfl,by omega,by omega,by omega⟩
def rO:bq where
 pre:=fun ds=>∃x y:a3,ds=[aR x,aR y]∧cv x∧cv y
 res:=fun ds=>match ds with
  |[p,q]=>aR (cH (dO p) (dO q))
  |_=> .nilp
theorem ahE (Γ:Env) (f76:Γ.fn 76=some dE) (oW:Γ.mt 76=none) (f94:Γ.fn 94=some kZ) (ahF:Γ.mt 94=none) (ds:List D) (h:rO.pre ds):bH Γ Jg Jh ds fun d=>d=rO.res ds:=by
 obtain⟨x,y,rfl,ah,hy⟩:=h
 have ex:=iM ah
 have sf:=iM hy
 have cP:=ie ah
 have ga:=ie hy
 have akB:=uB x.m y.m
 have aw:=kI ah
 have Lh:=kI hy
 have rG:=qV (n:=x.m*y.m) (by omega)
 simp (maxSteps:=2000000) only[↓ak,aj,↓reduceIte,reduceCtorEq,Nat.reduceEqDiff,Nat.reduceLeDiff,Nat.reduceSub,Nat.reduceAdd,Int.reduceToNat,Nat.reducePow,Int.reducePow,Int.reduceLE,Int.reduceLT,IntKind.bits,Jg,Jh,rO,aR,b0,cH,f76,oW,dE,f94,ahF,kZ,bO]
 refine⟨⟨_,_,rfl,cN _,cN _,by omega,by omega⟩,?_⟩
 repeat (refine And.intro (by first|omega|(simp only[aG];omega)|(simp only[aG]at*;omega)|(simp only[List.length_append,List.length_cons,List.length_nil,List.length_set,bL];omega)) ?_)
 exact⟨_,_,_,rfl,rG,by omega,by omega⟩
def hN:bq where
 pre:=fun ds=>∃x y:a3,ds=[aR x,aR y]∧cv x∧cv y
 res:=fun ds=>match ds with
  |[p,q]=> .bool (decide (dO p=dO q))
  |_=> .nilp
theorem FF {x y:a3} :x=y↔x.neg=y.neg∧x.e=y.e∧ai x.m=ai y.m:=by
 constructor
 ·rintro rfl;exact⟨rfl,rfl,rfl⟩
 ·rintro⟨h1,h2,al⟩
  have:=Ey al
  cases x;cases y;simp_all
theorem ahG (Γ:Env) (f65:Γ.fn 65=some km) (J9:Γ.mt 65=none) (ds:List D) (h:hN.pre ds):bH Γ vJ yr ds fun d=>d=hN.res ds:=by
 obtain⟨x,y,rfl,ah,hy⟩:=h
 have cP:=ie ah
 by_cases bB:x.neg=y.neg
 ·by_cases cu:x.e=y.e
  ·have oV:(x.e==y.e)=true:=by simpa using cu
   have ju:(x.neg==y.neg)=true:=by simpa using bB
   have aC:decide (x=y)=decide (ai x.m=ai y.m):=by
    rw[decide_eq_decide,FF];simp[bB,cu]
   simp (maxSteps:=2000000) only[↓ak,aj,↓reduceIte,reduceCtorEq,Nat.reduceEqDiff,Nat.reduceLeDiff,Nat.reduceSub,Nat.reduceAdd,Int.reduceToNat,Nat.reducePow,Int.reducePow,Int.reduceLE,Int.reduceLT,IntKind.bits,vJ,yr,hN,aR,b0,ju,oV,f65,J9,km,aC]
   exact⟨_,_,rfl,by omega⟩
  ·have oV:(x.e==y.e)=false:=beq_false_of_ne cu
   have ju:(x.neg==y.neg)=true:=by simpa using bB
   have aC:decide (x=y)=false:=by rw[decide_eq_false_iff_not,FF];simp[cu]
   simp (maxSteps:=2000000) only[↓ak,aj,↓reduceIte,reduceCtorEq,Nat.reduceEqDiff,Nat.reduceLeDiff,Nat.reduceSub,Nat.reduceAdd,Int.reduceToNat,Nat.reducePow,Int.reducePow,Int.reduceLE,Int.reduceLT,IntKind.bits,vJ,yr,hN,aR,b0,ju,oV,f65,J9,km,aC]
 ·have ju:(x.neg==y.neg)=false:=by simpa using bB
  have aC:decide (x=y)=false:=by rw[decide_eq_false_iff_not,FF];simp[bB]
  simp (maxSteps:=2000000) only[↓ak,aj,↓reduceIte,reduceCtorEq,Nat.reduceEqDiff,Nat.reduceLeDiff,Nat.reduceSub,Nat.reduceAdd,Int.reduceToNat,Nat.reducePow,Int.reducePow,Int.reduceLE,Int.reduceLT,IntKind.bits,vJ,yr,hN,aR,b0,ju,f65,J9,km,aC]
def g8:bq where
 pre:=fun ds=>∃n:Int,ds=[.int .i64 n]∧-9223372036854775807≤n∧n≤9223372036854775807
 res:=fun ds=>match ds with
  |[.int _ n]=>aR (mk (decide (n<0)) n.natAbs 0)
  |_=> .nilp
theorem ahH (Γ:Env) (f76:Γ.fn 76=some dE) (oW:Γ.mt 76=none) (f90:Γ.fn 90=some tM) (UL:Γ.mt 90=none) (ds:List D) (h:g8.pre ds):bH Γ CC CD ds fun d=>d=g8.res ds:=by
 obtain⟨n,rfl,h1,h2⟩:=h
 have aB:=qN (n:=n.natAbs) (k:=3) (by omega)
 by_cases c:n<0
 ·have a1:(0 - n).toNat=n.natAbs:=by omega
  simp (maxSteps:=2000000) only[↓ak,aj,↓reduceIte,reduceCtorEq,Nat.reduceEqDiff,Nat.reduceLeDiff,Nat.reduceSub,Nat.reduceAdd,Int.reduceToNat,Nat.reducePow,Int.reducePow,Int.reduceLE,Int.reduceLT,IntKind.bits,CC,CD,g8,aR,f76,oW,dE,f90,UL,tM,bO,c,a1]
  refine⟨by simp only[aG];omega,?_⟩
  exact⟨⟨_,rfl,by simp only[aG];omega⟩,⟨_,_,_,rfl,by omega,by omega,by omega⟩⟩
 ·have a1:n.toNat=n.natAbs:=by omega
  simp (maxSteps:=2000000) only[↓ak,aj,↓reduceIte,reduceCtorEq,Nat.reduceEqDiff,Nat.reduceLeDiff,Nat.reduceSub,Nat.reduceAdd,Int.reduceToNat,Nat.reducePow,Int.reducePow,Int.reduceLE,Int.reduceLT,IntKind.bits,CC,CD,g8,aR,f76,oW,dE,f90,UL,tM,bO,c,a1]
  exact⟨⟨_,rfl,by simp only[aG];omega⟩,⟨_,_,_,rfl,by omega,by omega,by omega⟩⟩
end RV.Dr
namespace RV
open Go
set_option linter.unusedVariables false
theorem wrap_small {n:Nat} (h:n<9223372036854775808):IntKind.i64.wrap (n:Int)=n:=by
 have h1:(n:Int) % 2^64=n:=by omega
 have h2:¬((n:Int)≥2^(64 - 1)):=by omega
 unfold IntKind.wrap
 simp only[show IntKind.i64.bits=64 from rfl,show IntKind.i64.signed=true from rfl,h1,h2,decide_false,Bool.and_false,Bool.false_eq_true,if_false]
theorem w6 (k:Nat) (ad:k≤62) (x:Int):ji .i64 x ((2^k - 1:Nat):Int)=x % (2^k:Nat):=by
 unfold ji
 have aS:2^k≤2^62:=Nat.pow_le_pow_right (by decide) ad
 rw[BitVec.toNat_and]
 have h1:(BitVec.ofInt IntKind.i64.bits ((2^k - 1:Nat):Int)).toNat=2^k - 1:=by
  rw[BitVec.ofInt_natCast,BitVec.toNat_ofNat,Nat.mod_eq_of_lt]
  show _<2^64
  omega
 rw[h1,Nat.and_two_pow_sub_one_eq_mod]
 have h2:=Nat.mod_lt (BitVec.ofInt IntKind.i64.bits x).toNat (Nat.two_pow_pos k)
 rw[wrap_small (by omega),BitVec.toNat_ofInt]
 show (((x % ((2^64:Nat):Int)).toNat % 2^k:Nat):Int)=_
 rw[Int.natCast_emod,Int.toNat_of_nonneg (by omega)]
 refine Int.emod_emod_of_dvd x ?_
 exact Int.natCast_dvd_natCast.2 (Nat.pow_dvd_pow 2 (by omega))
theorem EA (x:Int):ji .i64 x 16777215=x % 16777216:=w6 24 (by decide) x
theorem OD (x:Int):ji .i64 x 1=x % 2:=w6 1 (by decide) x
theorem aaP (x:Int):ji .i64 x 3=x % 4:=w6 2 (by decide) x
theorem acS {a b k c:Nat} (a2:a<2^k) (ar:b=2^k*c) (h:a+b<9223372036854775808):ya .i64 (a:Int) (b:Int)=((a+b:Nat):Int):=by
 unfold ya
 rw[BitVec.toNat_or,BitVec.ofInt_natCast,BitVec.ofInt_natCast,BitVec.toNat_ofNat,BitVec.toNat_ofNat,Nat.mod_eq_of_lt (by show _<2^64;omega),Nat.mod_eq_of_lt (by show _<2^64;omega)]
 have:=Nat.two_pow_add_eq_or_of_lt a2 c
 rw[←ar]at this
 rw[Nat.or_comm,←this,Nat.add_comm b a,wrap_small h]
theorem Q6 (x:Int):x.fdiv 16777216=x / 16777216:=Int.fdiv_eq_ediv_of_nonneg x (by decide)
end RV
namespace RV.Dr
open Go RV
set_option linter.unusedSimpArgs false
set_option linter.unusedVariables false
set_option maxRecDepth 100000
set_option maxHeartbeats 4000000
def jl:fL where
 pre:=fun bG cs=>∃s c:Int,bG=[.box bF 0,.d (.int .i64 s)]∧cs=[.cells [.d (.int .i64 c)]]∧-2305843009213693952≤s∧s≤2305843009213693952∧-2305843009213693952≤c∧c≤2305843009213693952
 res:=fun bG cs=>match bG,cs with
  |[_,.d (.int _ s)],[.cells [.d (.int _ c)]]=> .int .i64 ((s+c) % 16777216)
  |_,_=> .nilp
 out:=fun bG cs=>match bG,cs with
  |[_,.d (.int _ s)],[.cells [.d (.int _ c)]]=>[.cells [.d (.int .i64 ((s+c) / 16777216))]]
  |_,_=>[]
theorem ae5 (Γ:Env) (bG:List ag) (cs:List BC) (h:jl.pre bG cs):nE Γ GN GO bG cs fun d cs'=>d=jl.res bG cs∧cs'=jl.out bG cs:=by
 obtain⟨s,c,rfl,rfl,h1,h2,al,aE⟩:=h
 simp (maxSteps:=2000000) only[↓ak,aj,↓reduceIte,reduceCtorEq,Nat.reduceEqDiff,Nat.reduceLeDiff,Nat.reduceSub,Nat.reduceAdd,Int.reduceToNat,Nat.reducePow,Int.reducePow,Int.reduceLE,Int.reduceLT,IntKind.bits,GN,GO,jl,EA,Q6]
 simp only[aG];omega
def tc:fL where
 pre:=fun bG cs=>∃x y c:Int,bG=[.d (.int .i64 x),.d (.int .i64 y),.box bF 0]∧cs=[.cells [.c0 118 [.box (bF+1) 0] []],.cells [.d (.int .i64 c)]]∧0≤x∧x<16777216∧0≤y∧y<16777216∧0≤c∧c≤16777216
 res:=fun bG cs=>match bG,cs with
  |[.d (.int _ x),.d (.int _ y),_],[_,.cells [.d (.int _ c)]]=> .int .i64 ((x+y+c) % 16777216)
  |_,_=> .nilp
 out:=fun bG cs=>match bG,cs with
  |[.d (.int _ x),.d (.int _ y),_],[p,.cells [.d (.int _ c)]]=>[p,.cells [.d (.int .i64 ((x+y+c) / 16777216))]]
  |_,_=>[]
theorem ae6 (Γ:Env) (nL:Γ.mt 118=some jl) (bG:List ag) (cs:List BC) (h:tc.pre bG cs):nE Γ GP GQ bG cs fun d cs'=>d=tc.res bG cs∧cs'=tc.out bG cs:=by
 obtain⟨x,y,c,rfl,rfl,h1,h2,al,aE,aI,aM⟩:=h
 simp (maxSteps:=2000000) only[↓ak,aj,↓reduceIte,reduceCtorEq,Nat.reduceEqDiff,Nat.reduceLeDiff,Nat.reduceSub,Nat.reduceAdd,Int.reduceToNat,Nat.reducePow,Int.reducePow,Int.reduceLE,Int.reduceLT,IntKind.bits,bF,Nat.reduceBneDiff,Nat.reduceBeqDiff,Nat.reduceLT,List.flatMap_cons,List.flatMap_nil,List.append_nil,List.nil_append,List.cons_append,List.filter_cons,List.filter_nil,List.contains_cons,List.contains_nil,bne_self_eq_false,beq_self_eq_true,List.map_cons,List.map_nil,GP,GQ,tc,nL,jl]
 repeat (refine And.intro (by first|omega|(simp only[aG];omega)|(simp only[aG]at*;omega)|(simp only[List.length_append,List.length_cons,List.length_nil,List.length_set,bL];omega)) ?_)
 exact⟨_,_,rfl,rfl,by omega⟩
def td:fL where
 pre:=fun bG cs=>∃x y c:Int,bG=[.d (.int .i64 x),.d (.int .i64 y),.box bF 0]∧cs=[.cells [.d (.int .i64 c)]]∧0≤x∧x<16777216∧0≤y∧y<16777216∧-16777216≤c∧c≤0
 res:=fun bG cs=>match bG,cs with
  |[.d (.int _ x),.d (.int _ y),_],[.cells [.d (.int _ c)]]=> .int .i64 ((x - y+c) % 16777216)
  |_,_=> .nilp
 out:=fun bG cs=>match bG,cs with
  |[.d (.int _ x),.d (.int _ y),_],[.cells [.d (.int _ c)]]=>[.cells [.d (.int .i64 ((x - y+c) / 16777216))]]
  |_,_=>[]
theorem ae7 (Γ:Env) (nL:Γ.mt 118=some jl) (bG:List ag) (cs:List BC) (h:td.pre bG cs):nE Γ G4 G5 bG cs fun d cs'=>d=td.res bG cs∧cs'=td.out bG cs:=by
 obtain⟨x,y,c,rfl,rfl,h1,h2,al,aE,aI,aM⟩:=h
 simp (maxSteps:=2000000) only[↓ak,aj,↓reduceIte,reduceCtorEq,Nat.reduceEqDiff,Nat.reduceLeDiff,Nat.reduceSub,Nat.reduceAdd,Int.reduceToNat,Nat.reducePow,Int.reducePow,Int.reduceLE,Int.reduceLT,IntKind.bits,bF,Nat.reduceBneDiff,Nat.reduceBeqDiff,Nat.reduceLT,List.flatMap_cons,List.flatMap_nil,List.append_nil,List.nil_append,List.cons_append,List.filter_cons,List.filter_nil,List.contains_cons,List.contains_nil,bne_self_eq_false,beq_self_eq_true,List.map_cons,List.map_nil,G4,G5,td,nL,jl]
 repeat (refine And.intro (by first|omega|(simp only[aG];omega)|(simp only[aG]at*;omega)|(simp only[List.length_append,List.length_cons,List.length_nil,List.length_set,bL];omega)) ?_)
 exact⟨_,_,rfl,rfl,by omega⟩
def kd:bq where
 pre:=fun ds=>∃xs:List Int,ds=[.ints .i64 xs]∧bQ xs∧xs.length≤100000
 res:=fun ds=>match ds with
  |[.ints _ xs]=>a7 (val xs)
  |_=> .nilp
theorem ae8 (Γ:Env) (ds:List D) (h:kd.pre ds):bH Γ GL GM ds fun d=>d=kd.res ds:=by
 obtain⟨xs,rfl,ah,hlen⟩:=h
 simp (maxSteps:=2000000) only[↓ak,aj,↓reduceIte,reduceCtorEq,Nat.reduceEqDiff,Nat.reduceLeDiff,Nat.reduceSub,Nat.reduceAdd,Int.reduceToNat,Nat.reducePow,Int.reducePow,Int.reduceLE,Int.reduceLT,IntKind.bits,GL,GM,kd]
 refine cc (fun s=>s.af 0= .d (a7 (val xs))) ?_ ?_
 ·refine EP (fun s=>∃n:Nat,n≤xs.length∧s.af 0= .d (.ints .i64 (xs.take n))∧val (xs.take n)=val xs) (fun s=>match s.af 0 with| .d (.ints _ n)=>n.length|_=>0) ?_ ?_
  ·refine⟨xs.length,Nat.le_refl _,?_⟩
   simp (maxSteps:=2000000) only[↓ak,aj,↓reduceIte,reduceCtorEq,Nat.reduceEqDiff,Nat.reduceLeDiff,Nat.reduceSub,Nat.reduceAdd,Int.reduceToNat,Nat.reducePow,Int.reducePow,Int.reduceLE,Int.reduceLT,IntKind.bits,List.take_length]
  ·rintro s ⟨n,aH,h0,aA⟩
   have Ka:(xs.take n).length=n:=by rw[List.length_take,Nat.min_eq_left aH]
   have yN:s.af 0= .d (.ints .i64 (xs.take n)):=h0
   by_cases eW:(n:Int)>0
   ·have a1:((n:Int) - 1).toNat=n - 1:=by omega
    have a6:n - 1<n:=by omega
    have cU:n - 1<xs.length:=by omega
    have cx:(xs.take n).getD (n - 1) 0=xs.getD (n - 1) 0:=by
     rw[List.getD_eq_getElem?_getD,List.getElem?_take_of_lt (by omega),←List.getD_eq_getElem?_getD]
    by_cases bB:xs.getD (n - 1) 0=0
    ·simp (maxSteps:=2000000) only[↓ak,aj,↓reduceIte,reduceCtorEq,Nat.reduceEqDiff,Nat.reduceLeDiff,Nat.reduceSub,Nat.reduceAdd,Int.reduceToNat,Nat.reducePow,Int.reducePow,Int.reduceLE,Int.reduceLT,IntKind.bits,h0,Ka,eW,a1,a6,cx,bB,beq_self_eq_true]
     repeat (refine And.intro (by first|omega|(simp only[aG];omega)|(simp only[aG]at*;omega)|(simp only[List.length_append,List.length_cons,List.length_nil,List.length_set,bL];omega)) ?_)
     refine⟨⟨n - 1,by omega,?_,?_⟩,?_⟩
     ·rw[List.take_take,Nat.min_eq_left (by omega)]
     ·rw[←aA,←LH cU bB,show n - 1+1=n by omega]
     ·rw[List.take_take,Nat.min_eq_left (by omega),List.length_take];omega
    ·have cu:(xs.getD (n - 1) 0==0)=false:=beq_false_of_ne bB
     simp (maxSteps:=2000000) only[↓ak,aj,↓reduceIte,reduceCtorEq,Nat.reduceEqDiff,Nat.reduceLeDiff,Nat.reduceSub,Nat.reduceAdd,Int.reduceToNat,Nat.reducePow,Int.reducePow,Int.reduceLE,Int.reduceLT,IntKind.bits,h0,Ka,eW,a1,a6,cx,cu]
     repeat (refine And.intro (by first|omega|(simp only[aG];omega)|(simp only[aG]at*;omega)|(simp only[List.length_append,List.length_cons,List.length_nil,List.length_set,bL];omega)) ?_)
     rw[zV ah aA (.inr ⟨aH,bB⟩)]
   ·simp (maxSteps:=2000000) only[↓ak,aj,↓reduceIte,reduceCtorEq,Nat.reduceEqDiff,Nat.reduceLeDiff,Nat.reduceSub,Nat.reduceAdd,Int.reduceToNat,Nat.reducePow,Int.reducePow,Int.reduceLE,Int.reduceLT,IntKind.bits,h0,Ka,eW]
    rw[zV ah aA (.inl (by omega))]
 ·rintro s h0
  simp (maxSteps:=2000000) only[↓ak,aj,↓reduceIte,reduceCtorEq,Nat.reduceEqDiff,Nat.reduceLeDiff,Nat.reduceSub,Nat.reduceAdd,Int.reduceToNat,Nat.reducePow,Int.reducePow,Int.reduceLE,Int.reduceLT,IntKind.bits,h0]
def rh:bq where
 pre:=fun ds=>∃(xs:List Int) (i:Nat),ds=[.ints .i64 xs,.int .i64 i]
 res:=fun ds=>match ds with
  |[.ints _ xs,.int _ i]=> .int .i64 (xs.getD i.toNat 0)
  |_=> .nilp
theorem ae9 (Γ:Env) (ds:List D) (h:rh.pre ds):bH Γ BS BT ds fun d=>d=rh.res ds:=by
 obtain⟨xs,i,rfl⟩:=h
 by_cases c:(i:Int)<xs.length
 ·simp (maxSteps:=2000000) only[↓ak,aj,↓reduceIte,reduceCtorEq,Nat.reduceEqDiff,Nat.reduceLeDiff,Nat.reduceSub,Nat.reduceAdd,Int.reduceToNat,Nat.reducePow,Int.reducePow,Int.reduceLE,Int.reduceLT,IntKind.bits,BS,BT,rh,c]
  omega
 ·simp (maxSteps:=2000000) only[↓ak,aj,↓reduceIte,reduceCtorEq,Nat.reduceEqDiff,Nat.reduceLeDiff,Nat.reduceSub,Nat.reduceAdd,Int.reduceToNat,Nat.reducePow,Int.reducePow,Int.reduceLE,Int.reduceLT,IntKind.bits,BS,BT,rh,c]
  rw[List.getD_eq_getElem?_getD,List.getElem?_eq_none (by omega)];rfl
def nM:fL where
 pre:=fun bG cs=>∃(xs ax:List Int) (n:Nat),bQ xs∧bQ ax∧xs.length≤n∧ax.length≤n∧n≤50000∧
  ((bG=[.d (.ints .i64 xs),.d (.ints .i64 ax),.d (.int .i64 n),.c0 120 [] [.box bF 0]]∧cs=[.cells [.c0 118 [.box (bF+1) 0] []],.cells [.d (.int .i64 0)]]∧val xs+val ax<16777216^n)∨
   (bG=[.d (.ints .i64 xs),.d (.ints .i64 ax),.d (.int .i64 n),.c0 132 [] [.box bF 0]]∧cs=[.cells [.d (.int .i64 0)]]∧val ax≤val xs))
 res:=fun bG cs=>match bG with
  |[.d (.ints _ xs),.d (.ints _ ax),_,.c0 f _ _]=>a7 (if f=120 then val xs+val ax else val xs - val ax)
  |_=> .nilp
 out:=fun bG cs=>cs
theorem afa (Γ:Env) (f140:Γ.fn 140=some rh) (SO:Γ.mt 140=none) (afb:Γ.mt 120=some tc) (afc:Γ.mt 132=some td)
 (f117:Γ.fn 117=some kd) (oI:Γ.mt 117=none)
 (bG:List ag) (cs:List BC) (h:nM.pre bG cs):nE Γ BK BL bG cs fun d cs'=>d=nM.res bG cs∧cs'=nM.out bG cs:=by
 obtain⟨xs,ax,n,ah,hy,cP,ga,aH,⟨rfl,rfl,ar⟩|⟨rfl,rfl,ar⟩⟩:=h
 ·simp (maxSteps:=2000000) only[↓ak,aj,↓reduceIte,reduceCtorEq,Nat.reduceEqDiff,Nat.reduceLeDiff,Nat.reduceSub,Nat.reduceAdd,Int.reduceToNat,Nat.reducePow,Int.reducePow,Int.reduceLE,Int.reduceLT,IntKind.bits,bF,Nat.reduceBneDiff,Nat.reduceBeqDiff,Nat.reduceLT,List.flatMap_cons,List.flatMap_nil,List.append_nil,List.nil_append,List.cons_append,List.filter_cons,List.filter_nil,List.contains_cons,List.contains_nil,bne_self_eq_false,beq_self_eq_true,List.map_cons,List.map_nil,BK,BL,nM]
  repeat (refine And.intro (by first|omega|(simp only[aG];omega)|(simp only[aG]at*;omega)|(simp only[List.length_append,List.length_cons,List.length_nil,List.length_set,bL];omega)) ?_)
  refine cc (fun s=>s.af 10= .own 13 0 n∧∃out:List Int,s.aw 13=some ⟨false,false,.ints .i64 out⟩∧s.aw 1000000=some ⟨false,true,.cells [.c0 118 [.box 1000001 0] []]⟩∧s.aw 1000001=some ⟨false,true,.cells [.d (.int .i64 0)]⟩∧out.length=n∧bQ out∧val out=val xs+val ax) ?_ ?_
  ·simp (maxSteps:=2000000) only[↓ak,aj,↓reduceIte,reduceCtorEq,Nat.reduceEqDiff,Nat.reduceLeDiff,Nat.reduceSub,Nat.reduceAdd,Int.reduceToNat,Nat.reducePow,Int.reducePow,Int.reduceLE,Int.reduceLT,IntKind.bits,bF,Nat.reduceBneDiff,Nat.reduceBeqDiff,Nat.reduceLT,List.flatMap_cons,List.flatMap_nil,List.append_nil,List.nil_append,List.cons_append,List.filter_cons,List.filter_nil,List.contains_cons,List.contains_nil,bne_self_eq_false,beq_self_eq_true,List.map_cons,List.map_nil,true_and]
   refine eC (fun s=>∃(out:List Int) (c:Int) (i:Nat),s.af 0= .d (.ints .i64 xs)∧s.af 1= .d (.ints .i64 ax)∧s.af 3= .c0 120 [] [.box bF 0]∧s.af 9= .d (.fn 140 [] [])∧s.af 10= .own 13 0 n∧s.af 15= .d (.int .i64 n)∧s.af 16= .d (.int .i64 i)∧
    s.aw 13=some ⟨false,false,.ints .i64 out⟩∧s.aw 1000000=some ⟨false,true,.cells [.c0 118 [.box 1000001 0] []]⟩∧s.aw 1000001=some ⟨false,true,.cells [.d (.int .i64 c)]⟩∧out.length=n∧bQ out∧i≤n∧0≤c∧c≤1∧(val (out.take i):Int)+16777216^i*c=val (xs.take i)+1*val (ax.take i))
    (fun s=>match s.af 16 with| .d (.int _ i)=>n - i.toNat|_=>0) ?_ ?_
   ·refine⟨List.replicate n 0,0,0,?_⟩
    simp (maxSteps:=2000000) only[↓ak,aj,↓reduceIte,reduceCtorEq,Nat.reduceEqDiff,Nat.reduceLeDiff,Nat.reduceSub,Nat.reduceAdd,Int.reduceToNat,Nat.reducePow,Int.reducePow,Int.reduceLE,Int.reduceLT,IntKind.bits,bF,Nat.reduceBneDiff,Nat.reduceBeqDiff,Nat.reduceLT,List.flatMap_cons,List.flatMap_nil,List.append_nil,List.nil_append,List.cons_append,List.filter_cons,List.filter_nil,List.contains_cons,List.contains_nil,bne_self_eq_false,beq_self_eq_true,List.map_cons,List.map_nil,Int.toNat_natCast,List.length_replicate]
    repeat (refine And.intro (by first|omega|(simp only[aG];omega)|(simp only[aG]at*;omega)|(simp only[List.length_append,List.length_cons,List.length_nil,List.length_set,bL];omega)) ?_)
    refine⟨fun x ah=>by rw[List.eq_of_mem_replicate ah];decide,?_⟩
    repeat (refine And.intro (by first|omega|(simp only[aG];omega)|(simp only[aG]at*;omega)|(simp only[List.length_append,List.length_cons,List.length_nil,List.length_set,bL];omega)) ?_)
    simp[val]
   ·rintro s ⟨out,c,i,h0,h1,al,bM,cB,iN,rP,k2,h6,p9,hlen,aB,hi,de,ao,aA⟩
    by_cases ci:(i:Int)<n
    ·have a1:i<n:=by omega
     have k1:=ah.getD i
     have UM:=hy.getD i
     have cF:(0:Int)≤i:=by omega
     simp (maxSteps:=2000000) only[↓ak,aj,↓reduceIte,reduceCtorEq,Nat.reduceEqDiff,Nat.reduceLeDiff,Nat.reduceSub,Nat.reduceAdd,Int.reduceToNat,Nat.reducePow,Int.reducePow,Int.reduceLE,Int.reduceLT,IntKind.bits,bF,Nat.reduceBneDiff,Nat.reduceBeqDiff,Nat.reduceLT,List.flatMap_cons,List.flatMap_nil,List.append_nil,List.nil_append,List.cons_append,List.filter_cons,List.filter_nil,List.contains_cons,List.contains_nil,bne_self_eq_false,beq_self_eq_true,List.map_cons,List.map_nil,h0,h1,al,bM,cB,iN,rP,k2,h6,p9,ci,a1,cF,hlen,f140,SO,rh,afb,tc,Int.toNat_natCast]
     have er:=Eh (out:=out) (i:=i) (c:=c) (t:=1) (s:=xs.getD i 0+ax.getD i 0+c) (by omega) ah hy (by omega) aA
     refine⟨⟨xs,i,rfl⟩,⟨ax,i,rfl⟩,⟨xs.getD i 0,ax.getD i 0,c,rfl,rfl,by omega⟩,?_⟩
     repeat (refine And.intro (by first|omega|(simp only[aG];omega)|(simp only[aG]at*;omega)|(simp only[List.length_append,List.length_cons,List.length_nil,List.length_set,bL];omega)) ?_)
     refine⟨⟨out.set i ((xs.getD i 0+ax.getD i 0+c) % 16777216),(xs.getD i 0+ax.getD i 0+c) / 16777216,i+1,?_⟩,by omega⟩
     (repeat' apply And.intro)<;>first|with_reducible rfl|omega|(simp only[List.length_append,List.length_cons,List.length_nil,List.length_set,List.length_replicate];omega)|(simp only[aG];omega)|(simp only[List.length_set];done)|(rw[Int.toNat_of_nonneg (by omega)];done)|exact er|exact aB.set _ (by omega) (by omega)|exact(by congr 3)
    ·simp (maxSteps:=2000000) only[↓ak,aj,↓reduceIte,reduceCtorEq,Nat.reduceEqDiff,Nat.reduceLeDiff,Nat.reduceSub,Nat.reduceAdd,Int.reduceToNat,Nat.reducePow,Int.reducePow,Int.reduceLE,Int.reduceLT,IntKind.bits,bF,Nat.reduceBneDiff,Nat.reduceBeqDiff,Nat.reduceLT,List.flatMap_cons,List.flatMap_nil,List.append_nil,List.nil_append,List.cons_append,List.filter_cons,List.filter_nil,List.contains_cons,List.contains_nil,bne_self_eq_false,beq_self_eq_true,List.map_cons,List.map_nil,h0,h1,al,bM,cB,iN,rP,k2,h6,p9,ci]
     have:i=n:=by omega
     subst this
     rw[List.take_of_length_le (by omega),List.take_of_length_le cP,List.take_of_length_le ga]at aA
     have hs:=ib aB
     rw[hlen]at hs
     have:=Ez (T:=val xs+val ax) (by rw[aA,Int.natCast_add,Int.one_mul]) hs ar (by omega)
     refine⟨out,?_⟩
     (repeat' apply And.intro)<;>first|with_reducible rfl|omega|(simp only[List.length_append,List.length_cons,List.length_nil,List.length_set,List.length_replicate];omega)|(simp only[aG];omega)|(simp only[List.length_set];done)|(rw[Int.toNat_of_nonneg (by omega)];done)|exact aB|exact this.2|exact(by rw[this.1])
  ·rintro s ⟨cB,out,k2,h6,p9,hlen,aB,aA⟩
   subst hlen
   simp (maxSteps:=2000000) only[↓ak,aj,↓reduceIte,reduceCtorEq,Nat.reduceEqDiff,Nat.reduceLeDiff,Nat.reduceSub,Nat.reduceAdd,Int.reduceToNat,Nat.reducePow,Int.reducePow,Int.reduceLE,Int.reduceLT,IntKind.bits,bF,Nat.reduceBneDiff,Nat.reduceBeqDiff,Nat.reduceLT,List.flatMap_cons,List.flatMap_nil,List.append_nil,List.nil_append,List.cons_append,List.filter_cons,List.filter_nil,List.contains_cons,List.contains_nil,bne_self_eq_false,beq_self_eq_true,List.map_cons,List.map_nil,cB,k2,h6,p9,f117,oI,kd,List.take_length]
   repeat (refine And.intro (by first|omega|(simp only[aG];omega)|(simp only[aG]at*;omega)|(simp only[List.length_append,List.length_cons,List.length_nil,List.length_set,bL];omega)) ?_)
   exact⟨⟨out,rfl,aB,by omega⟩,by rw[aA]⟩
 ·simp (maxSteps:=2000000) only[↓ak,aj,↓reduceIte,reduceCtorEq,Nat.reduceEqDiff,Nat.reduceLeDiff,Nat.reduceSub,Nat.reduceAdd,Int.reduceToNat,Nat.reducePow,Int.reducePow,Int.reduceLE,Int.reduceLT,IntKind.bits,bF,Nat.reduceBneDiff,Nat.reduceBeqDiff,Nat.reduceLT,List.flatMap_cons,List.flatMap_nil,List.append_nil,List.nil_append,List.cons_append,List.filter_cons,List.filter_nil,List.contains_cons,List.contains_nil,bne_self_eq_false,beq_self_eq_true,List.map_cons,List.map_nil,BK,BL,nM]
  repeat (refine And.intro (by first|omega|(simp only[aG];omega)|(simp only[aG]at*;omega)|(simp only[List.length_append,List.length_cons,List.length_nil,List.length_set,bL];omega)) ?_)
  refine cc (fun s=>s.af 10= .own 13 0 n∧∃out:List Int,s.aw 13=some ⟨false,false,.ints .i64 out⟩∧s.aw 1000000=some ⟨false,true,.cells [.d (.int .i64 0)]⟩∧out.length=n∧bQ out∧val out=val xs - val ax) ?_ ?_
  ·simp (maxSteps:=2000000) only[↓ak,aj,↓reduceIte,reduceCtorEq,Nat.reduceEqDiff,Nat.reduceLeDiff,Nat.reduceSub,Nat.reduceAdd,Int.reduceToNat,Nat.reducePow,Int.reducePow,Int.reduceLE,Int.reduceLT,IntKind.bits,bF,Nat.reduceBneDiff,Nat.reduceBeqDiff,Nat.reduceLT,List.flatMap_cons,List.flatMap_nil,List.append_nil,List.nil_append,List.cons_append,List.filter_cons,List.filter_nil,List.contains_cons,List.contains_nil,bne_self_eq_false,beq_self_eq_true,List.map_cons,List.map_nil,true_and]
   refine eC (fun s=>∃(out:List Int) (c:Int) (i:Nat),s.af 0= .d (.ints .i64 xs)∧s.af 1= .d (.ints .i64 ax)∧s.af 3= .c0 132 [] [.box bF 0]∧s.af 9= .d (.fn 140 [] [])∧s.af 10= .own 13 0 n∧s.af 15= .d (.int .i64 n)∧s.af 16= .d (.int .i64 i)∧
    s.aw 13=some ⟨false,false,.ints .i64 out⟩∧s.aw 1000000=some ⟨false,true,.cells [.d (.int .i64 c)]⟩∧out.length=n∧bQ out∧i≤n∧-1≤c∧c≤0∧(val (out.take i):Int)+16777216^i*c=val (xs.take i)+(-1)*val (ax.take i))
    (fun s=>match s.af 16 with| .d (.int _ i)=>n - i.toNat|_=>0) ?_ ?_
   ·refine⟨List.replicate n 0,0,0,?_⟩
    simp (maxSteps:=2000000) only[↓ak,aj,↓reduceIte,reduceCtorEq,Nat.reduceEqDiff,Nat.reduceLeDiff,Nat.reduceSub,Nat.reduceAdd,Int.reduceToNat,Nat.reducePow,Int.reducePow,Int.reduceLE,Int.reduceLT,IntKind.bits,bF,Nat.reduceBneDiff,Nat.reduceBeqDiff,Nat.reduceLT,List.flatMap_cons,List.flatMap_nil,List.append_nil,List.nil_append,List.cons_append,List.filter_cons,List.filter_nil,List.contains_cons,List.contains_nil,bne_self_eq_false,beq_self_eq_true,List.map_cons,List.map_nil,Int.toNat_natCast,List.length_replicate]
    repeat (refine And.intro (by first|omega|(simp only[aG];omega)|(simp only[aG]at*;omega)|(simp only[List.length_append,List.length_cons,List.length_nil,List.length_set,bL];omega)) ?_)
    refine⟨fun x ah=>by rw[List.eq_of_mem_replicate ah];decide,?_⟩
    repeat (refine And.intro (by first|omega|(simp only[aG];omega)|(simp only[aG]at*;omega)|(simp only[List.length_append,List.length_cons,List.length_nil,List.length_set,bL];omega)) ?_)
    simp[val]
   ·rintro s ⟨out,c,i,h0,h1,al,bM,cB,iN,rP,k2,h6,hlen,aB,hi,de,ao,aA⟩
    by_cases ci:(i:Int)<n
    ·have a1:i<n:=by omega
     have k1:=ah.getD i
     have UM:=hy.getD i
     have cF:(0:Int)≤i:=by omega
     simp (maxSteps:=2000000) only[↓ak,aj,↓reduceIte,reduceCtorEq,Nat.reduceEqDiff,Nat.reduceLeDiff,Nat.reduceSub,Nat.reduceAdd,Int.reduceToNat,Nat.reducePow,Int.reducePow,Int.reduceLE,Int.reduceLT,IntKind.bits,bF,Nat.reduceBneDiff,Nat.reduceBeqDiff,Nat.reduceLT,List.flatMap_cons,List.flatMap_nil,List.append_nil,List.nil_append,List.cons_append,List.filter_cons,List.filter_nil,List.contains_cons,List.contains_nil,bne_self_eq_false,beq_self_eq_true,List.map_cons,List.map_nil,h0,h1,al,bM,cB,iN,rP,k2,h6,ci,a1,cF,hlen,f140,SO,rh,afc,td,Int.toNat_natCast]
     have er:=Eh (out:=out) (i:=i) (c:=c) (t:= -1) (s:=xs.getD i 0 - ax.getD i 0+c) (by omega) ah hy (by omega) aA
     refine⟨⟨xs,i,rfl⟩,⟨ax,i,rfl⟩,⟨xs.getD i 0,ax.getD i 0,c,rfl,rfl,by omega⟩,?_⟩
     repeat (refine And.intro (by first|omega|(simp only[aG];omega)|(simp only[aG]at*;omega)|(simp only[List.length_append,List.length_cons,List.length_nil,List.length_set,bL];omega)) ?_)
     refine⟨⟨out.set i ((xs.getD i 0 - ax.getD i 0+c) % 16777216),(xs.getD i 0 - ax.getD i 0+c) / 16777216,i+1,?_⟩,by omega⟩
     (repeat' apply And.intro)<;>first|with_reducible rfl|omega|(simp only[List.length_append,List.length_cons,List.length_nil,List.length_set,List.length_replicate];omega)|(simp only[aG];omega)|(simp only[List.length_set];done)|(rw[Int.toNat_of_nonneg (by omega)];done)|exact er|exact aB.set _ (by omega) (by omega)|exact(by congr 3)
    ·simp (maxSteps:=2000000) only[↓ak,aj,↓reduceIte,reduceCtorEq,Nat.reduceEqDiff,Nat.reduceLeDiff,Nat.reduceSub,Nat.reduceAdd,Int.reduceToNat,Nat.reducePow,Int.reducePow,Int.reduceLE,Int.reduceLT,IntKind.bits,bF,Nat.reduceBneDiff,Nat.reduceBeqDiff,Nat.reduceLT,List.flatMap_cons,List.flatMap_nil,List.append_nil,List.nil_append,List.cons_append,List.filter_cons,List.filter_nil,List.contains_cons,List.contains_nil,bne_self_eq_false,beq_self_eq_true,List.map_cons,List.map_nil,h0,h1,al,bM,cB,iN,rP,k2,h6,ci]
     have:i=n:=by omega
     subst this
     rw[List.take_of_length_le (by omega),List.take_of_length_le cP,List.take_of_length_le ga]at aA
     have hs:=ib aB
     rw[hlen]at hs
     have ahI:=ib ah
     have alI:16777216^xs.length≤16777216^i:=Nat.pow_le_pow_right (by decide) cP
     have:=Ez (T:=val xs - val ax) (c:=c) (n:=i) (v:=val out) (by rw[aA];omega) hs (by omega) (by omega)
     refine⟨out,?_⟩
     (repeat' apply And.intro)<;>first|with_reducible rfl|omega|(simp only[List.length_append,List.length_cons,List.length_nil,List.length_set,List.length_replicate];omega)|(simp only[aG];omega)|(simp only[List.length_set];done)|(rw[Int.toNat_of_nonneg (by omega)];done)|exact aB|exact this.2|exact(by rw[this.1])
  ·rintro s ⟨cB,out,k2,h6,hlen,aB,aA⟩
   subst hlen
   simp (maxSteps:=2000000) only[↓ak,aj,↓reduceIte,reduceCtorEq,Nat.reduceEqDiff,Nat.reduceLeDiff,Nat.reduceSub,Nat.reduceAdd,Int.reduceToNat,Nat.reducePow,Int.reducePow,Int.reduceLE,Int.reduceLT,IntKind.bits,bF,Nat.reduceBneDiff,Nat.reduceBeqDiff,Nat.reduceLT,List.flatMap_cons,List.flatMap_nil,List.append_nil,List.nil_append,List.cons_append,List.filter_cons,List.filter_nil,List.contains_cons,List.contains_nil,bne_self_eq_false,beq_self_eq_true,List.map_cons,List.map_nil,cB,k2,h6,f117,oI,kd,List.take_length]
   repeat (refine And.intro (by first|omega|(simp only[aG];omega)|(simp only[aG]at*;omega)|(simp only[List.length_append,List.length_cons,List.length_nil,List.length_set,bL];omega)) ?_)
   exact⟨⟨out,rfl,aB,by omega⟩,by rw[aA]⟩
def jv:bq where
 pre:=fun ds=>∃xs ax:List Int,ds=[.ints .i64 xs,.ints .i64 ax]∧bQ xs∧bQ ax∧xs.length≤20000∧ax.length≤20000
 res:=fun ds=>match ds with
  |[.ints _ xs,.ints _ ax]=>a7 (val xs+val ax)
  |_=> .nilp
theorem ahJ (Γ:Env) (BW:Γ.mt 119=some nM) (ds:List D) (h:jv.pre ds):bH Γ JT JU ds fun d=>d=jv.res ds:=by
 obtain⟨xs,ax,rfl,ah,hy,cP,ga⟩:=h
 simp (maxSteps:=2000000) only[↓ak,aj,↓reduceIte,reduceCtorEq,Nat.reduceEqDiff,Nat.reduceLeDiff,Nat.reduceSub,Nat.reduceAdd,Int.reduceToNat,Nat.reducePow,Int.reducePow,Int.reduceLE,Int.reduceLT,IntKind.bits,bF,Nat.reduceBneDiff,Nat.reduceBeqDiff,Nat.reduceLT,List.flatMap_cons,List.flatMap_nil,List.append_nil,List.nil_append,List.cons_append,List.filter_cons,List.filter_nil,List.contains_cons,List.contains_nil,bne_self_eq_false,beq_self_eq_true,List.map_cons,List.map_nil,JT,JU,jv,BW,nM]
 have bR:(if (ax.length:Int)>xs.length then (ax.length:Int)else xs.length)+1=((max xs.length ax.length+1:Nat):Int):=by split<;>omega
 rw[bR]
 repeat (refine And.intro (by first|omega|(simp only[aG];omega)|(simp only[aG]at*;omega)|(simp only[List.length_append,List.length_cons,List.length_nil,List.length_set,bL];omega)) ?_)
 refine⟨xs,ax,max xs.length ax.length+1,ah,hy,by omega,by omega,by omega,.inl ⟨rfl,?_⟩⟩
 have h1:=ib ah
 have h2:=ib hy
 have al:16777216^xs.length≤16777216^max xs.length ax.length:=Nat.pow_le_pow_right (by decide) (by omega)
 have aE:16777216^ax.length≤16777216^max xs.length ax.length:=Nat.pow_le_pow_right (by decide) (by omega)
 rw[Nat.pow_succ]
 omega
def ri:bq where
 pre:=fun ds=>∃x:Int,ds=[.int .i64 x]
 res:=fun ds=> .bool false
theorem afd (Γ:Env) (ds:List D) (h:ri.pre ds):bH Γ Ho Hp ds fun d=>d=ri.res ds:=by
 obtain⟨x,rfl⟩:=h
 simp (maxSteps:=2000000) only[↓ak,aj,↓reduceIte,reduceCtorEq,Nat.reduceEqDiff,Nat.reduceLeDiff,Nat.reduceSub,Nat.reduceAdd,Int.reduceToNat,Nat.reducePow,Int.reducePow,Int.reduceLE,Int.reduceLT,IntKind.bits,Ho,Hp,ri,bne_self_eq_false]
def e0 (x y:Int):Int:=if x<y then -1 else if x>y then 1 else 0
def mB:bq where
 pre:=fun ds=>∃x y:Int,ds=[.int .i64 x,.int .i64 y]
 res:=fun ds=>match ds with
  |[.int _ x,.int _ y]=> .int .i64 (e0 x y)
  |_=> .nilp
theorem afe (Γ:Env) (f147:Γ.fn 147=some ri) (HF:Γ.mt 147=none) (ds:List D) (h:mB.pre ds):bH Γ xY xZ ds fun d=>d=mB.res ds:=by
 obtain⟨x,y,rfl⟩:=h
 by_cases bB:x<y
 ·simp (maxSteps:=2000000) only[↓ak,aj,↓reduceIte,reduceCtorEq,Nat.reduceEqDiff,Nat.reduceLeDiff,Nat.reduceSub,Nat.reduceAdd,Int.reduceToNat,Nat.reducePow,Int.reducePow,Int.reduceLE,Int.reduceLT,IntKind.bits,xY,xZ,mB,f147,HF,ri,bB,e0]
  exact⟨⟨x,rfl⟩,⟨y,rfl⟩⟩
 ·by_cases cu:x>y
  ·simp (maxSteps:=2000000) only[↓ak,aj,↓reduceIte,reduceCtorEq,Nat.reduceEqDiff,Nat.reduceLeDiff,Nat.reduceSub,Nat.reduceAdd,Int.reduceToNat,Nat.reducePow,Int.reducePow,Int.reduceLE,Int.reduceLT,IntKind.bits,xY,xZ,mB,f147,HF,ri,bB,cu,e0]
   exact⟨⟨x,rfl⟩,⟨y,rfl⟩⟩
  ·simp (maxSteps:=2000000) only[↓ak,aj,↓reduceIte,reduceCtorEq,Nat.reduceEqDiff,Nat.reduceLeDiff,Nat.reduceSub,Nat.reduceAdd,Int.reduceToNat,Nat.reducePow,Int.reducePow,Int.reduceLE,Int.reduceLT,IntKind.bits,xY,xZ,mB,f147,HF,ri,bB,cu,e0]
   exact⟨⟨x,rfl⟩,⟨y,rfl⟩⟩
def ke:bq where
 pre:=fun ds=>∃a b:Nat,ds=[a7 a,a7 b]∧(ai a).length≤100000∧(ai b).length≤100000
 res:=fun ds=>match ds with
  |[.ints _ xs,.ints _ ax]=> .int .i64 (e0 (val xs) (val ax))
  |_=> .nilp
theorem xh {a b:Nat} (h:a<b):e0 a b= -1:=by unfold e0;rw[if_pos (by omega)]
theorem Fe {a b:Nat} (h:b<a):e0 a b=1:=by unfold e0;rw[if_neg (by omega),if_pos (by omega)]
theorem xi (a:Int):e0 a a=0:=by unfold e0;rw[if_neg (by omega),if_neg (by omega)]
theorem aff (Γ:Env) (f131:Γ.fn 131=some mB) (x0:Γ.mt 131=none) (ds:List D) (h:ke.pre ds):bH Γ BA BB ds fun d=>d=ke.res ds:=by
 obtain⟨a,b,rfl,ck,da⟩:=h
 by_cases bB:(ai a).length=(ai b).length
 ·have ju:(((ai a).length:Int) !=(ai b).length)=false:=by rw[bB];exact bne_self_eq_false _
  simp (maxSteps:=2000000) only[↓ak,aj,↓reduceIte,reduceCtorEq,Nat.reduceEqDiff,Nat.reduceLeDiff,Nat.reduceSub,Nat.reduceAdd,Int.reduceToNat,Nat.reducePow,Int.reducePow,Int.reduceLE,Int.reduceLT,IntKind.bits,BA,BB,ke,ju,bO]
  refine cc (fun s=>a=b) ?_ ?_
  ·simp (maxSteps:=2000000) only[↓ak,aj,↓reduceIte,reduceCtorEq,Nat.reduceEqDiff,Nat.reduceLeDiff,Nat.reduceSub,Nat.reduceAdd,Int.reduceToNat,Nat.reducePow,Int.reducePow,Int.reduceLE,Int.reduceLT,IntKind.bits]
   repeat (refine And.intro (by first|omega|(simp only[aG];omega)|(simp only[aG]at*;omega)|(simp only[List.length_append,List.length_cons,List.length_nil,List.length_set,bL];omega)) ?_)
   refine eC (fun s=>∃i:Int,s.af 0= .d (.ints .i64 (ai a))∧s.af 1= .d (.ints .i64 (ai b))∧s.af 5= .d (.int .i64 i)∧-1≤i∧i<(ai a).length∧(ai a).drop (i+1).toNat=(ai b).drop (i+1).toNat)
    (fun s=>match s.af 5 with| .d (.int _ i)=>(i+1).toNat|_=>0) ?_ ?_
   ·refine⟨((ai a).length:Int) - 1,?_⟩
    simp (maxSteps:=2000000) only[↓ak,aj,↓reduceIte,reduceCtorEq,Nat.reduceEqDiff,Nat.reduceLeDiff,Nat.reduceSub,Nat.reduceAdd,Int.reduceToNat,Nat.reducePow,Int.reducePow,Int.reduceLE,Int.reduceLT,IntKind.bits]
    repeat (refine And.intro (by first|omega|(simp only[aG];omega)|(simp only[aG]at*;omega)|(simp only[List.length_append,List.length_cons,List.length_nil,List.length_set,bL];omega)) ?_)
    rw[List.drop_of_length_le (by omega),List.drop_of_length_le (by omega)]
   ·rintro s ⟨i,h0,h1,aI,yO,nY,aC⟩
    by_cases ci:i≥0
    ·have a1:i.toNat<(ai a).length:=by omega
     have a6:i<(ai a).length:=by omega
     have cU:i<(ai b).length:=by omega
     by_cases ce:(ai a).getD i.toNat 0=(ai b).getD i.toNat 0
     ·have Kb:((ai a).getD i.toNat 0 !=(ai b).getD i.toNat 0)=false:=by rw[ce];exact bne_self_eq_false _
      simp (maxSteps:=2000000) only[↓ak,aj,↓reduceIte,reduceCtorEq,Nat.reduceEqDiff,Nat.reduceLeDiff,Nat.reduceSub,Nat.reduceAdd,Int.reduceToNat,Nat.reducePow,Int.reducePow,Int.reduceLE,Int.reduceLT,IntKind.bits,h0,h1,aI,ci,Kb,a6,cU]
      have akC:(ai a).drop i.toNat=(ai b).drop i.toNat:=by
       rw[List.getD_eq_getElem?_getD,List.getD_eq_getElem?_getD,List.getElem?_eq_getElem a1,List.getElem?_eq_getElem (show i.toNat<(ai b).length by omega)]at ce
       simp only[Option.getD_some]at ce
       rw[List.drop_eq_getElem_cons a1,List.drop_eq_getElem_cons (show i.toNat<(ai b).length by omega),ce]
       rw[show (i+1).toNat=i.toNat+1 by omega]at aC
       rw[aC]
      repeat (refine And.intro (by first|omega|(simp only[aG];omega)|(simp only[aG]at*;omega)|(simp only[List.length_append,List.length_cons,List.length_nil,List.length_set,bL];omega)) ?_)
      refine⟨⟨i - 1,rfl,by omega,by omega,?_⟩,by omega⟩
      rw[show (i - 1+1).toNat=i.toNat by omega]
      exact akC
     ·have Kb:((ai a).getD i.toNat 0 !=(ai b).getD i.toNat 0)=true:=bne_iff_ne.2 ce
      rw[show (i+1).toNat=i.toNat+1 by omega]at aC
      simp (maxSteps:=2000000) only[↓ak,aj,↓reduceIte,reduceCtorEq,Nat.reduceEqDiff,Nat.reduceLeDiff,Nat.reduceSub,Nat.reduceAdd,Int.reduceToNat,Nat.reducePow,Int.reducePow,Int.reduceLE,Int.reduceLT,IntKind.bits,h0,h1,aI,ci,Kb,a6,cU,f131,x0,mB]
      repeat (refine And.intro (by first|omega|(simp only[aG];omega)|(simp only[aG]at*;omega)|(simp only[List.length_append,List.length_cons,List.length_nil,List.length_set,bL];omega)) ?_)
      refine⟨⟨_,_,rfl⟩,?_⟩
      rcases Int.lt_or_gt_of_ne ce with aB|aB
      ·have:=Aa (cN a) (cN b) a1 (by omega) aC aB
       rw[bO,bO]at this
       rw[xh this]
       unfold e0;rw[if_pos aB]
      ·have:=Aa (cN b) (cN a) (by omega) a1 aC.symm aB
       rw[bO,bO]at this
       rw[Fe this]
       unfold e0;rw[if_neg (by omega),if_pos aB]
    ·simp (maxSteps:=2000000) only[↓ak,aj,↓reduceIte,reduceCtorEq,Nat.reduceEqDiff,Nat.reduceLeDiff,Nat.reduceSub,Nat.reduceAdd,Int.reduceToNat,Nat.reducePow,Int.reducePow,Int.reduceLE,Int.reduceLT,IntKind.bits,h0,h1,aI,ci]
     rw[show (i+1).toNat=0 by omega,List.drop_zero,List.drop_zero]at aC
     exact Ey aC
  ·rintro s rfl
   simp (maxSteps:=2000000) only[↓ak,aj,↓reduceIte,reduceCtorEq,Nat.reduceEqDiff,Nat.reduceLeDiff,Nat.reduceSub,Nat.reduceAdd,Int.reduceToNat,Nat.reducePow,Int.reducePow,Int.reduceLE,Int.reduceLT,IntKind.bits,xi]
 ·have ju:(((ai a).length:Int) !=(ai b).length)=true:=bne_iff_ne.2 (by omega)
  simp (maxSteps:=2000000) only[↓ak,aj,↓reduceIte,reduceCtorEq,Nat.reduceEqDiff,Nat.reduceLeDiff,Nat.reduceSub,Nat.reduceAdd,Int.reduceToNat,Nat.reducePow,Int.reducePow,Int.reduceLE,Int.reduceLT,IntKind.bits,BA,BB,ke,ju,bO,f131,x0,mB]
  refine⟨⟨_,_,rfl⟩,?_⟩
  rcases Nat.lt_or_gt_of_ne bB with aB|aB
  ·rw[xh (wS aB),xh aB]
  ·rw[Fe (wS aB),Fe aB]
def kf:bq where
 pre:=fun ds=>∃a b:Nat,ds=[a7 a,a7 b]∧(ai a).length≤20000∧(ai b).length≤20000
 res:=fun ds=>match ds with
  |[.ints _ xs,.ints _ ax]=>if val xs<val ax then .ep [.ints .i64 [],.bool false]else .ep [a7 (val xs - val ax),.bool true]
  |_=> .nilp
theorem afg (Γ:Env) (BW:Γ.mt 119=some nM) (f102:Γ.fn 102=some ke) (x1:Γ.mt 102=none) (ds:List D) (h:kf.pre ds):bH Γ BE BF ds fun d=>d=kf.res ds:=by
 obtain⟨a,b,rfl,ck,da⟩:=h
 by_cases c:a<b
 ·have bB:e0 (a:Int) b<0:=by rw[xh c];decide
  simp (maxSteps:=2000000) only[↓ak,aj,↓reduceIte,reduceCtorEq,Nat.reduceEqDiff,Nat.reduceLeDiff,Nat.reduceSub,Nat.reduceAdd,Int.reduceToNat,Nat.reducePow,Int.reducePow,Int.reduceLE,Int.reduceLT,IntKind.bits,bF,Nat.reduceBneDiff,Nat.reduceBeqDiff,Nat.reduceLT,List.flatMap_cons,List.flatMap_nil,List.append_nil,List.nil_append,List.cons_append,List.filter_cons,List.filter_nil,List.contains_cons,List.contains_nil,bne_self_eq_false,beq_self_eq_true,List.map_cons,List.map_nil,BE,BF,kf,BW,nM,f102,x1,ke,bO,bB,c]
  exact⟨a,b,rfl,by omega,by omega⟩
 ·have bB:¬e0 (a:Int) b<0:=by
   unfold e0;split
   ·omega
   ·split<;>decide
  simp (maxSteps:=2000000) only[↓ak,aj,↓reduceIte,reduceCtorEq,Nat.reduceEqDiff,Nat.reduceLeDiff,Nat.reduceSub,Nat.reduceAdd,Int.reduceToNat,Nat.reducePow,Int.reducePow,Int.reduceLE,Int.reduceLT,IntKind.bits,bF,Nat.reduceBneDiff,Nat.reduceBeqDiff,Nat.reduceLT,List.flatMap_cons,List.flatMap_nil,List.append_nil,List.nil_append,List.cons_append,List.filter_cons,List.filter_nil,List.contains_cons,List.contains_nil,bne_self_eq_false,beq_self_eq_true,List.map_cons,List.map_nil,BE,BF,kf,BW,nM,f102,x1,ke,bO,bB,c]
  have aB:(ai b).length≤(ai a).length:=by
   rcases Nat.lt_or_ge (ai a).length (ai b).length with h|h
   ·exact absurd (wS h) c
   ·exact h
  refine⟨⟨a,b,rfl,by omega,by omega⟩,⟨ai a,ai b,(ai a).length,cN a,cN b,by omega,by omega,by omega,.inr ⟨rfl,?_⟩⟩⟩
  rw[bO,bO];omega
def iO:bq where
 pre:=fun ds=>∃n:Int,ds=[.int .i64 n]∧aG n
 res:=fun ds=>match ds with
  |[.int _ n]=>a7 n.toNat
  |_=> .nilp
theorem ahK (Γ:Env) (ds:List D) (h:iO.pre ds):bH Γ JV JW ds fun d=>d=iO.res ds:=by
 obtain⟨N,rfl,bR⟩:=h
 simp (maxSteps:=2000000) only[↓ak,aj,↓reduceIte,reduceCtorEq,Nat.reduceEqDiff,Nat.reduceLeDiff,Nat.reduceSub,Nat.reduceAdd,Int.reduceToNat,Nat.reducePow,Int.reducePow,Int.reduceLE,Int.reduceLT,IntKind.bits,JV,JW,iO]
 refine cc (fun s=>∃out:List Int,s.af 3= .own 3 0 out.length∧s.aw 3=some ⟨false,false,.ints .i64 out⟩∧out=ai N.toNat) ?_ ?_
 ·simp (maxSteps:=2000000) only[↓ak,aj,↓reduceIte,reduceCtorEq,Nat.reduceEqDiff,Nat.reduceLeDiff,Nat.reduceSub,Nat.reduceAdd,Int.reduceToNat,Nat.reducePow,Int.reducePow,Int.reduceLE,Int.reduceLT,IntKind.bits]
  refine eC (fun s=>∃(out:List Int) (n:Int),s.af 3= .own 3 0 out.length∧s.aw 3=some ⟨false,false,.ints .i64 out⟩∧s.af 0= .d (.int .i64 n)∧n≤N∧aG n∧out.length+(ai n.toNat).length≤1000∧out++ai n.toNat=ai N.toNat) (fun s=>match s.af 0 with| .d (.int _ n)=>n.toNat|_=>0) ?_ ?_
  ·refine⟨[],N,?_⟩
   simp (maxSteps:=2000000) only[↓ak,aj,↓reduceIte,reduceCtorEq,Nat.reduceEqDiff,Nat.reduceLeDiff,Nat.reduceSub,Nat.reduceAdd,Int.reduceToNat,Nat.reducePow,Int.reducePow,Int.reduceLE,Int.reduceLT,IntKind.bits]
   refine⟨Int.le_refl _,bR,?_⟩
   have:=qN (n:=N.toNat) (k:=3) (by simp only[aG]at bR;omega)
   omega
  ·rintro s ⟨out,n,al,aW,h0,aH,aq,hlen,aA⟩
   by_cases ao:n>0
   ·simp (maxSteps:=2000000) only[↓ak,aj,↓reduceIte,reduceCtorEq,Nat.reduceEqDiff,Nat.reduceLeDiff,Nat.reduceSub,Nat.reduceAdd,Int.reduceToNat,Nat.reducePow,Int.reducePow,Int.reduceLE,Int.reduceLT,IntKind.bits,al,aW,h0,ao,EA,Q6]
    have aS:ai n.toNat=n % 16777216::ai (n / 16777216).toNat:=by
     rw[pq (by omega),show n.toNat / 16777216=(n / 16777216).toNat by omega,show ((n.toNat % 16777216:Nat):Int)=n % 16777216 by omega]
    rw[aS]at aA hlen
    simp only[List.length_cons]at hlen
    repeat (refine And.intro (by first|omega|(simp only[aG];omega)|(simp only[aG]at*;omega)|(simp only[List.length_append,List.length_cons,List.length_nil,List.length_set,bL];omega)) ?_)
    refine⟨⟨out++[n % 16777216],n / 16777216,rfl,rfl,rfl,by omega,by simp only[aG]at*;omega,by simp only[List.length_append,List.length_cons,List.length_nil];omega,by rw[←aA];simp⟩,by omega⟩
   ·simp (maxSteps:=2000000) only[↓ak,aj,↓reduceIte,reduceCtorEq,Nat.reduceEqDiff,Nat.reduceLeDiff,Nat.reduceSub,Nat.reduceAdd,Int.reduceToNat,Nat.reducePow,Int.reducePow,Int.reduceLE,Int.reduceLT,IntKind.bits,al,aW,h0,ao]
    refine⟨out,rfl,rfl,?_⟩
    rw[show n.toNat=0 by omega,gf,List.append_nil]at aA
    exact aA
 ·rintro s ⟨out,al,aW,aA⟩
  simp (maxSteps:=2000000) only[↓ak,aj,↓reduceIte,reduceCtorEq,Nat.reduceEqDiff,Nat.reduceLeDiff,Nat.reduceSub,Nat.reduceAdd,Int.reduceToNat,Nat.reducePow,Int.reducePow,Int.reduceLE,Int.reduceLT,IntKind.bits,al,aW]
  rw[List.take_length,aA]
def nN:bq where
 pre:=fun ds=>∃xs ax:List Int,ds=[.ints .i64 xs,.ints .i64 ax]∧bQ xs∧bQ ax∧xs.length≤10000∧ax.length≤10000
 res:=fun ds=>match ds with
  |[.ints _ xs,.ints _ ax]=>a7 (val xs*val ax)
  |_=> .nilp
theorem afh (Γ:Env) (f117:Γ.fn 117=some kd) (oI:Γ.mt 117=none) (nL:Γ.mt 118=some jl) (ds:List D) (h:nN.pre ds):bH Γ Gq Gr ds fun d=>d=nN.res ds:=by
 obtain⟨xs,ax,rfl,ah,hy,cP,ga⟩:=h
 simp (maxSteps:=2000000) only[↓ak,aj,↓reduceIte,reduceCtorEq,Nat.reduceEqDiff,Nat.reduceLeDiff,Nat.reduceSub,Nat.reduceAdd,Int.reduceToNat,Nat.reducePow,Int.reducePow,Int.reduceLE,Int.reduceLT,IntKind.bits,Gq,Gr,nN]
 repeat (refine And.intro (by first|omega|(simp only[aG];omega)|(simp only[aG]at*;omega)|(simp only[List.length_append,List.length_cons,List.length_nil,List.length_set,bL];omega)) ?_)
 refine cc (fun s=>∃out:List Int,s.af 5= .own 16 0 out.length∧s.aw 16=some ⟨false,false,.ints .i64 out⟩∧bQ out∧out.length≤20000∧val out=val xs*val ax) ?_ ?_
 ·simp (maxSteps:=2000000) only[↓ak,aj,↓reduceIte,reduceCtorEq,Nat.reduceEqDiff,Nat.reduceLeDiff,Nat.reduceSub,Nat.reduceAdd,Int.reduceToNat,Nat.reducePow,Int.reducePow,Int.reduceLE,Int.reduceLT,IntKind.bits]
  refine eC (fun s=>∃(out:List Int) (i:Nat),s.af 0= .d (.ints .i64 xs)∧s.af 1= .d (.ints .i64 ax)∧s.af 5= .own 16 0 out.length∧s.aw 16=some ⟨false,false,.ints .i64 out⟩∧s.af 17= .d (.ints .i64 xs)∧s.af 18= .d (.int .i64 xs.length)∧s.af 19= .d (.int .i64 i)∧
   bQ out∧out.length=xs.length+ax.length∧i≤xs.length∧val out=val (xs.take i)*val ax∧∀j,i+ax.length≤j→out.getD j 0=0)
   (fun s=>match s.af 19 with| .d (.int _ n)=>xs.length - n.toNat|_=>0) ?_ ?_
  ·refine⟨List.replicate (xs.length+ax.length) 0,0,?_⟩
   simp (maxSteps:=2000000) only[↓ak,aj,↓reduceIte,reduceCtorEq,Nat.reduceEqDiff,Nat.reduceLeDiff,Nat.reduceSub,Nat.reduceAdd,Int.reduceToNat,Nat.reducePow,Int.reducePow,Int.reduceLE,Int.reduceLT,IntKind.bits]
   rw[show ((xs.length:Int)+ax.length).toNat=xs.length+ax.length by omega]
   refine⟨rfl,rfl,rfl,fun x ah=> ?_,Nat.zero_le _,by rw[uH];simp[val],fun j _=> ?_⟩
   ·rw[List.eq_of_mem_replicate ah];decide
   ·rw[List.getD_eq_getElem?_getD,List.getElem?_replicate];split<;>rfl
  ·rintro s ⟨out,i,h0,h1,aI,hB,mQ,mR,mS,aB,hlen,hi,aA,bg⟩
   by_cases hd:(i:Int)<xs.length
   ·have Kc:i<xs.length:=by omega
    simp (maxSteps:=2000000) only[↓ak,aj,↓reduceIte,reduceCtorEq,Nat.reduceEqDiff,Nat.reduceLeDiff,Nat.reduceSub,Nat.reduceAdd,Int.reduceToNat,Nat.reducePow,Int.reducePow,Int.reduceLE,Int.reduceLT,IntKind.bits,h0,h1,aI,hB,mQ,mR,mS,hd,Kc]
    refine cc (fun s=>∃out:List Int,s.af 0= .d (.ints .i64 xs)∧s.af 1= .d (.ints .i64 ax)∧s.af 5= .own 16 0 out.length∧s.aw 16=some ⟨false,false,.ints .i64 out⟩∧s.af 17= .d (.ints .i64 xs)∧s.af 18= .d (.int .i64 xs.length)∧s.af 19= .d (.int .i64 i)∧bQ out∧out.length=xs.length+ax.length∧val out=val (xs.take (i+1))*val ax∧∀j,i+1+ax.length≤j→out.getD j 0=0) ?_ ?_
    ·simp (maxSteps:=2000000) only[↓ak,aj,↓reduceIte,reduceCtorEq,Nat.reduceEqDiff,Nat.reduceLeDiff,Nat.reduceSub,Nat.reduceAdd,Int.reduceToNat,Nat.reducePow,Int.reducePow,Int.reduceLE,Int.reduceLT,IntKind.bits,h0,h1,aI,hB,mQ,mR,mS,hd,Kc]
     repeat (refine And.intro (by first|omega|(simp only[aG];omega)|(simp only[aG]at*;omega)|(simp only[List.length_append,List.length_cons,List.length_nil,List.length_set,bL];omega)) ?_)
     refine cc (fun s=>∃(cV:List Int) (c:Nat),s.af 0= .d (.ints .i64 xs)∧s.af 1= .d (.ints .i64 ax)∧s.af 5= .own 16 0 cV.length∧s.aw 16=some ⟨false,false,.ints .i64 cV⟩∧s.af 17= .d (.ints .i64 xs)∧s.af 18= .d (.int .i64 xs.length)∧s.af 19= .d (.int .i64 i)∧s.af 6= .d (.int .i64 i)∧s.af 8= .box 8 0∧s.aw 8=some ⟨false,false,.cells [.d (.int .i64 (c:Nat))]⟩∧
      bQ cV∧cV.length=xs.length+ax.length∧c<16777216∧val cV+16777216^(i+ax.length)*c=val out+16777216^i*((xs.getD i 0).toNat*val ax)∧∀j,i+ax.length≤j→cV.getD j 0=0) ?_ ?_
     ·simp (maxSteps:=2000000) only[↓ak,aj,↓reduceIte,reduceCtorEq,Nat.reduceEqDiff,Nat.reduceLeDiff,Nat.reduceSub,Nat.reduceAdd,Int.reduceToNat,Nat.reducePow,Int.reducePow,Int.reduceLE,Int.reduceLT,IntKind.bits,h0,h1,aI,hB,mQ,mR,mS,hd,Kc]
      refine eC (fun s=>∃(cV:List Int) (c k:Nat),s.af 0= .d (.ints .i64 xs)∧s.af 1= .d (.ints .i64 ax)∧s.af 5= .own 16 0 cV.length∧s.aw 16=some ⟨false,false,.ints .i64 cV⟩∧s.af 17= .d (.ints .i64 xs)∧s.af 18= .d (.int .i64 xs.length)∧s.af 19= .d (.int .i64 i)∧s.af 6= .d (.int .i64 i)∧s.af 8= .box 8 0∧s.aw 8=some ⟨false,false,.cells [.d (.int .i64 (c:Nat))]⟩∧s.af 7= .d (.int .i64 (xs.getD i 0))∧s.af 24= .d (.ints .i64 ax)∧s.af 25= .d (.int .i64 ax.length)∧s.af 26= .d (.int .i64 k)∧
       bQ cV∧cV.length=xs.length+ax.length∧c<16777216∧k≤ax.length∧val cV+16777216^(i+k)*c=val out+16777216^i*((xs.getD i 0).toNat*val (ax.take k))∧∀j,i+ax.length≤j→cV.getD j 0=0)
       (fun s=>match s.af 26 with| .d (.int _ n)=>ax.length - n.toNat|_=>0) ?_ ?_
      ·refine⟨out,0,0,?_⟩
       simp (maxSteps:=2000000) only[↓ak,aj,↓reduceIte,reduceCtorEq,Nat.reduceEqDiff,Nat.reduceLeDiff,Nat.reduceSub,Nat.reduceAdd,Int.reduceToNat,Nat.reducePow,Int.reducePow,Int.reduceLE,Int.reduceLT,IntKind.bits,h0,h1,aI,hB,mQ,mR,mS,Int.natCast_zero]
       (repeat' apply And.intro)<;>first|with_reducible rfl|omega|(simp only[List.length_append,List.length_cons,List.length_nil,List.length_set,List.length_replicate];omega)|(simp only[aG];omega)|(simp only[List.length_set];done)|(rw[Int.toNat_of_nonneg (by omega)];done)|exact aB|exact bg|exact(by simp[val])
      ·rintro s ⟨cV,c,k,h0,h1,aI,hB,mQ,mR,mS,aM,bz,b3,a4,fJ,mT,UN,eH,gO,ao,ad,kn,ko⟩
       by_cases iW:(k:Int)<ax.length
       ·have ahL:k<ax.length:=by omega
        have a1:((i:Int)+k).toNat=i+k:=by omega
        have a6:i+k<cV.length:=by omega
        have k1:=ah.getD i
        have J7:=hy.getD k
        have bh:=eH.getD (i+k)
        have pK:xs.getD i 0*ax.getD k 0=(((xs.getD i 0).toNat*(ax.getD k 0).toNat:Nat):Int):=by
         rw[Int.natCast_mul,Int.toNat_of_nonneg k1.1,Int.toNat_of_nonneg J7.1]
        have p7:=M7 (x:=(xs.getD i 0).toNat) (y:=(ax.getD k 0).toNat) (c:=c) (o:=(cV.getD (i+k) 0).toNat) (by omega) (by omega) ao (by omega)
        simp (maxSteps:=2000000) only[↓ak,aj,↓reduceIte,reduceCtorEq,Nat.reduceEqDiff,Nat.reduceLeDiff,Nat.reduceSub,Nat.reduceAdd,Int.reduceToNat,Nat.reducePow,Int.reducePow,Int.reduceLE,Int.reduceLT,IntKind.bits,bF,Nat.reduceBneDiff,Nat.reduceBeqDiff,Nat.reduceLT,List.flatMap_cons,List.flatMap_nil,List.append_nil,List.nil_append,List.cons_append,List.filter_cons,List.filter_nil,List.contains_cons,List.contains_nil,bne_self_eq_false,beq_self_eq_true,List.map_cons,List.map_nil,h0,h1,aI,hB,mQ,mR,mS,aM,bz,b3,a4,fJ,mT,UN,iW,ahL,a1,a6,pK,nL,jl]
        generalize jy:cV.getD (i+k) 0+(((xs.getD i 0).toNat*(ax.getD k 0).toNat:Nat):Int)=wi
        have er:=abn (out:=cV) (j:=i+k) (c:=c) (x:=(xs.getD i 0).toNat) (y:=(ax.getD k 0).toNat) (s:=wi+c) eH a6 (by omega)
        have vM:0≤wi:=by omega
        have ahu:wi+c<16777216*16777216:=by omega
        repeat (refine And.intro (by first|omega|(simp only[aG];omega)|(simp only[aG]at*;omega)|(simp only[List.length_append,List.length_cons,List.length_nil,List.length_set,bL];omega)) ?_)
        refine⟨⟨wi,(c:Int),rfl,rfl,by omega⟩,?_⟩
        repeat (refine And.intro (by first|omega|(simp only[aG];omega)|(simp only[aG]at*;omega)|(simp only[List.length_append,List.length_cons,List.length_nil,List.length_set,bL];omega)) ?_)
        refine⟨⟨cV.set (i+k) ((wi+c) % 16777216),((wi+c) / 16777216).toNat,k+1,?_⟩,by omega⟩
        (repeat' apply And.intro)<;>first|with_reducible rfl|omega|(simp only[List.length_append,List.length_cons,List.length_nil,List.length_set,List.length_replicate];omega)|(simp only[aG];omega)|(simp only[List.length_set];done)|(rw[Int.toNat_of_nonneg (by omega)];done)|exact eH.set _ (by omega) (by omega)|exact(by congr 5;omega)|exact(fun j az=>by rw[og (by omega)];exact ko j az)|exact(by
         rw[show i+(k+1)=i+k+1 by omega,er,Nat.mul_add,←Nat.add_assoc,kn,ux (by omega),Nat.mul_add,Nat.mul_add,Nat.add_assoc]
         congr 2
         rw[Nat.pow_add,Nat.mul_assoc]
         congr 1
         rw[Nat.mul_left_comm])
       ·simp (maxSteps:=2000000) only[↓ak,aj,↓reduceIte,reduceCtorEq,Nat.reduceEqDiff,Nat.reduceLeDiff,Nat.reduceSub,Nat.reduceAdd,Int.reduceToNat,Nat.reducePow,Int.reducePow,Int.reduceLE,Int.reduceLT,IntKind.bits,h0,h1,aI,hB,mQ,mR,mS,aM,bz,b3,a4,fJ,mT,UN,iW]
        rw[List.take_of_length_le (by omega),show k=ax.length by omega]at kn
        exact⟨cV,c,rfl,rfl,rfl,eH,gO,ao,kn,ko⟩
     ·rintro s ⟨cV,c,h0,h1,aI,hB,mQ,mR,mS,aM,bz,b3,eH,gO,ao,kn,ko⟩
      have a1:((i:Int)+ax.length).toNat=i+ax.length:=by omega
      have a6:i+ax.length<cV.length:=by omega
      simp (maxSteps:=2000000) only[↓ak,aj,↓reduceIte,reduceCtorEq,Nat.reduceEqDiff,Nat.reduceLeDiff,Nat.reduceSub,Nat.reduceAdd,Int.reduceToNat,Nat.reducePow,Int.reducePow,Int.reduceLE,Int.reduceLT,IntKind.bits,h0,h1,aI,hB,mQ,mR,mS,aM,bz,b3,a1,a6]
      repeat (refine And.intro (by first|omega|(simp only[aG];omega)|(simp only[aG]at*;omega)|(simp only[List.length_append,List.length_cons,List.length_nil,List.length_set,bL];omega)) ?_)
      refine⟨cV.set (i+ax.length) c,by rw[List.length_set],rfl,eH.set _ (by omega) (by omega),by rw[List.length_set];exact gO,?_,fun j az=> ?_⟩
      ·have ay:=AF a6 (c:Int)
       rw[ko _ (Nat.le_refl _)]at ay
       simp only[Int.toNat_zero,Nat.mul_zero,Nat.add_zero,Int.toNat_natCast]at ay
       rw[ay,kn,aA,ux (by omega),Nat.add_mul,Nat.mul_assoc]
      ·rw[og (by omega)];exact ko j (by omega)
    ·rintro s ⟨cV,h0,h1,aI,hB,mQ,mR,mS,eH,gO,kn,ko⟩
     simp (maxSteps:=2000000) only[↓ak,aj,↓reduceIte,reduceCtorEq,Nat.reduceEqDiff,Nat.reduceLeDiff,Nat.reduceSub,Nat.reduceAdd,Int.reduceToNat,Nat.reducePow,Int.reducePow,Int.reduceLE,Int.reduceLT,IntKind.bits,h0,h1,aI,hB,mQ,mR,mS]
     repeat (refine And.intro (by first|omega|(simp only[aG];omega)|(simp only[aG]at*;omega)|(simp only[List.length_append,List.length_cons,List.length_nil,List.length_set,bL];omega)) ?_)
     exact⟨⟨cV,i+1,rfl,rfl,by omega,eH,gO,by omega,kn,ko⟩,by omega⟩
   ·simp (maxSteps:=2000000) only[↓ak,aj,↓reduceIte,reduceCtorEq,Nat.reduceEqDiff,Nat.reduceLeDiff,Nat.reduceSub,Nat.reduceAdd,Int.reduceToNat,Nat.reducePow,Int.reducePow,Int.reduceLE,Int.reduceLT,IntKind.bits,h0,h1,aI,hB,mQ,mR,mS,hd]
    rw[List.take_of_length_le (by omega)]at aA
    exact⟨out,rfl,rfl,aB,by omega,aA⟩
 ·rintro s ⟨out,aI,hB,aB,bh,aA⟩
  simp (maxSteps:=2000000) only[↓ak,aj,↓reduceIte,reduceCtorEq,Nat.reduceEqDiff,Nat.reduceLeDiff,Nat.reduceSub,Nat.reduceAdd,Int.reduceToNat,Nat.reducePow,Int.reducePow,Int.reduceLE,Int.reduceLT,IntKind.bits,aI,hB,f117,oI,kd]
  rw[List.take_length,aA]
  exact⟨⟨out,rfl,aB,by omega⟩,rfl⟩
theorem D6 {xs:List Int} {i:Nat} (h:i<xs.length) (x:Int):(xs.set i x).getD i 0=x:=by
 rw[List.getD_eq_getElem?_getD,List.getElem?_set_self h];rfl
def rj:bq where
 pre:=fun ds=>∃xs:List Int,ds=[.ints .i64 xs]∧xs.length≤100000
 res:=fun ds=>match ds with
  |[.ints _ xs]=> .ints .i64 xs
  |_=> .nilp
 own:=true
theorem afi (Γ:Env) (ds:List D) (h:rj.pre ds):xJ Γ GJ GK ds fun d=>d=rj.res ds:=by
 obtain⟨xs,rfl,hlen⟩:=h
 simp (maxSteps:=2000000) only[↓ak,aj,↓reduceIte,reduceCtorEq,Nat.reduceEqDiff,Nat.reduceLeDiff,Nat.reduceSub,Nat.reduceAdd,Int.reduceToNat,Nat.reducePow,Int.reducePow,Int.reduceLE,Int.reduceLT,IntKind.bits,GJ,GK,rj]
 intro b ar
 cases b with
 |true=>
  have:xs=[]:=by
   have:=ar rfl
   cases xs with
   |nil=>rfl
   |cons _ _=>simp at this
  subst this
  simp (maxSteps:=2000000) only[↓ak,aj,↓reduceIte,reduceCtorEq,Nat.reduceEqDiff,Nat.reduceLeDiff,Nat.reduceSub,Nat.reduceAdd,Int.reduceToNat,Nat.reducePow,Int.reducePow,Int.reduceLE,Int.reduceLT,IntKind.bits]
 |false=>
  simp (maxSteps:=2000000) only[↓ak,aj,↓reduceIte,reduceCtorEq,Nat.reduceEqDiff,Nat.reduceLeDiff,Nat.reduceSub,Nat.reduceAdd,Int.reduceToNat,Nat.reducePow,Int.reducePow,Int.reduceLE,Int.reduceLT,IntKind.bits,List.nil_append]
  unfold bL;omega
def tf:fL where
 pre:=fun bG cs=>∃xs:List Int,bG=[.own bF 0 xs.length]∧cs=[.ints .i64 xs]∧xs.length≤100000
 res:=fun bG cs=> .ep []
 out:=fun bG cs=>match cs with
  |[.ints _ xs]=>[.ints .i64 xs.reverse]
  |_=>[]
theorem afj (Γ:Env) (bG:List ag) (cs:List BC) (h:tf.pre bG cs):nE Γ HC HD bG cs fun d cs'=>d=tf.res bG cs∧cs'=tf.out bG cs:=by
 obtain⟨xs,rfl,rfl,hlen⟩:=h
 simp (maxSteps:=2000000) only[↓ak,aj,↓reduceIte,reduceCtorEq,Nat.reduceEqDiff,Nat.reduceLeDiff,Nat.reduceSub,Nat.reduceAdd,Int.reduceToNat,Nat.reducePow,Int.reducePow,Int.reduceLE,Int.reduceLT,IntKind.bits,bF,Nat.reduceBneDiff,Nat.reduceBeqDiff,Nat.reduceLT,List.flatMap_cons,List.flatMap_nil,List.append_nil,List.nil_append,List.cons_append,List.filter_cons,List.filter_nil,List.contains_cons,List.contains_nil,bne_self_eq_false,beq_self_eq_true,List.map_cons,List.map_nil,HC,HD,tf]
 repeat (refine And.intro (by first|omega|(simp only[aG];omega)|(simp only[aG]at*;omega)|(simp only[List.length_append,List.length_cons,List.length_nil,List.length_set,bL];omega)) ?_)
 refine eC (fun s=>∃(fu:List Int) (i:Nat) (j:Int),s.af 0= .own 1000000 0 xs.length∧s.af 2= .d (.int .i64 i)∧s.af 3= .d (.int .i64 j)∧s.aw 1000000=some ⟨false,true,.ints .i64 fu⟩∧
  fu.length=xs.length∧(i:Int)+j=xs.length - 1∧i≤xs.length∧-1≤j∧(∀k:Nat,k<xs.length→fu.getD k 0=if (k<i∨j<k)then xs.getD (xs.length - 1 - k) 0 else xs.getD k 0))
  (fun s=>match s.af 3 with| .d (.int _ j)=>(j+1).toNat|_=>0) ?_ ?_
 ·refine⟨xs,0,xs.length - 1,?_⟩
  simp (maxSteps:=2000000) only[↓ak,aj,↓reduceIte,reduceCtorEq,Nat.reduceEqDiff,Nat.reduceLeDiff,Nat.reduceSub,Nat.reduceAdd,Int.reduceToNat,Nat.reducePow,Int.reducePow,Int.reduceLE,Int.reduceLT,IntKind.bits,bF,Nat.reduceBneDiff,Nat.reduceBeqDiff,Nat.reduceLT,List.flatMap_cons,List.flatMap_nil,List.append_nil,List.nil_append,List.cons_append,List.filter_cons,List.filter_nil,List.contains_cons,List.contains_nil,bne_self_eq_false,beq_self_eq_true,List.map_cons,List.map_nil,true_and]
  repeat (refine And.intro (by first|omega|(simp only[aG];omega)|(simp only[aG]at*;omega)|(simp only[List.length_append,List.length_cons,List.length_nil,List.length_set,bL];omega)) ?_)
  intro k ad
  rw[if_neg (by omega)]
 ·rintro s ⟨fu,i,j,h0,h2,al,h6,gO,UE,hi,az,ad⟩
  by_cases c:(i:Int)<j
  ·have a1:i<xs.length:=by omega
   have a6:j.toNat<xs.length:=by omega
   have cU:(0:Int)≤j:=by omega
   have cx:j<xs.length:=by omega
   simp (maxSteps:=2000000) only[↓ak,aj,↓reduceIte,reduceCtorEq,Nat.reduceEqDiff,Nat.reduceLeDiff,Nat.reduceSub,Nat.reduceAdd,Int.reduceToNat,Nat.reducePow,Int.reducePow,Int.reduceLE,Int.reduceLT,IntKind.bits,bF,Nat.reduceBneDiff,Nat.reduceBeqDiff,Nat.reduceLT,List.flatMap_cons,List.flatMap_nil,List.append_nil,List.nil_append,List.cons_append,List.filter_cons,List.filter_nil,List.contains_cons,List.contains_nil,bne_self_eq_false,beq_self_eq_true,List.map_cons,List.map_nil,h0,h2,al,h6,c,a1,a6,cU,cx,gO,Int.toNat_natCast,List.length_set]
   repeat (refine And.intro (by first|omega|(simp only[aG];omega)|(simp only[aG]at*;omega)|(simp only[List.length_append,List.length_cons,List.length_nil,List.length_set,bL];omega)) ?_)
   refine⟨⟨(fu.set i (fu.getD j.toNat 0)).set j.toNat (fu.getD i 0),i+1,j - 1,by omega,rfl,rfl,by simp[gO],by omega,by omega,by omega,fun k rI=> ?_⟩,by omega⟩
   by_cases br:k=j.toNat
   ·subst br
    rw[D6 (by simp[gO];omega),ad i (by omega),if_neg (by omega),if_pos (by omega)]
    congr 1;omega
   ·rw[og (fun e=>br e.symm)]
    by_cases bw:k=i
    ·subst bw
     rw[D6 (by omega),ad j.toNat (by omega),if_neg (by omega),if_pos (by omega)]
     congr 1;omega
    ·rw[og (fun e=>bw e.symm),ad k rI]
     by_cases c3:k<i∨j<k
     ·rw[if_pos c3,if_pos (by omega)]
     ·rw[if_neg c3,if_neg (by omega)]
  ·simp (maxSteps:=2000000) only[↓ak,aj,↓reduceIte,reduceCtorEq,Nat.reduceEqDiff,Nat.reduceLeDiff,Nat.reduceSub,Nat.reduceAdd,Int.reduceToNat,Nat.reducePow,Int.reducePow,Int.reduceLE,Int.reduceLT,IntKind.bits,bF,Nat.reduceBneDiff,Nat.reduceBeqDiff,Nat.reduceLT,List.flatMap_cons,List.flatMap_nil,List.append_nil,List.nil_append,List.cons_append,List.filter_cons,List.filter_nil,List.contains_cons,List.contains_nil,bne_self_eq_false,beq_self_eq_true,List.map_cons,List.map_nil,h0,h2,al,h6,c]
   congr 2
   refine List.ext_getElem (by simp[gO]) fun k h1 h2=> ?_
   have:=ad k (by omega)
   rw[List.getD_eq_getElem?_getD,List.getElem?_eq_getElem h1]at this
   simp only[Option.getD_some]at this
   rw[this,List.getElem_reverse]
   split
   ·rw[List.getD_eq_getElem?_getD,List.getElem?_eq_getElem (by omega)];rfl
   ·rw[List.getD_eq_getElem?_getD,List.getElem?_eq_getElem (by omega)]
    simp only[Option.getD_some]
    congr 1
    omega
def tg:bq where
 pre:=fun ds=>∃xs:List Int,ds=[.ints .i64 xs]∧xs.length≤100000
 res:=fun ds=>match ds with
  |[.ints _ xs]=> .ints .i64 xs.reverse
  |_=> .nilp
 own:=true
theorem afk (Γ:Env) (f116:Γ.fn 116=some rj) (HG:Γ.mt 116=none) (afl:Γ.mt 154=some tf) (ds:List D) (h:tg.pre ds):xJ Γ Hm Hn ds fun d=>d=tg.res ds:=by
 obtain⟨xs,rfl,hlen⟩:=h
 simp (maxSteps:=2000000) only[↓ak,aj,↓reduceIte,reduceCtorEq,Nat.reduceEqDiff,Nat.reduceLeDiff,Nat.reduceSub,Nat.reduceAdd,Int.reduceToNat,Nat.reducePow,Int.reducePow,Int.reduceLE,Int.reduceLT,IntKind.bits,bF,Nat.reduceBneDiff,Nat.reduceBeqDiff,Nat.reduceLT,List.flatMap_cons,List.flatMap_nil,List.append_nil,List.nil_append,List.cons_append,List.filter_cons,List.filter_nil,List.contains_cons,List.contains_nil,bne_self_eq_false,beq_self_eq_true,List.map_cons,List.map_nil,Hm,Hn,tg,f116,HG,rj,afl,tf]
 exact⟨⟨xs,rfl,hlen⟩,⟨xs,rfl,rfl,hlen⟩,List.length_reverse⟩
def mC:List Int→List Int→Int
 |[],[]=>0
 |[],_::_=> -1
 |_::_,[]=>1
 |x::xs,y::ax=>if e0 x y=0 then mC xs ax else e0 x y
def th:bq where
 pre:=fun ds=>∃xs ax:List Int,ds=[.ints .i64 xs,.ints .i64 ax]∧xs.length≤100000∧ax.length=xs.length
 res:=fun ds=>match ds with
  |[.ints _ xs,.ints _ ax]=> .int .i64 (mC xs ax)
  |_=> .nilp
theorem Ng:∀{xs ax:List Int} {i:Nat},(∀k,k<i→xs.getD k 0=ax.getD k 0)→i<xs.length→i<ax.length→e0 (xs.getD i 0) (ax.getD i 0)≠0→mC xs ax=e0 (xs.getD i 0) (ax.getD i 0)
 |[],_,_,_,h,_,_=>by simp at h
 |_::_,[],_,_,_,h,_=>by simp at h
 |x::xs,y::ax,0,_,_,_,dX=>by
  simp only[List.getD_cons_zero]at*
  rw[mC,if_neg dX]
 |x::xs,y::ax,i+1,ad,h1,h2,dX=>by
  have h0:=ad 0 (by omega)
  simp only[List.getD_cons_zero,List.getD_cons_succ]at*
  rw[mC,h0,xi,if_pos rfl]
  exact Ng (fun k bY=>by have:=ad (k+1) (by omega);simpa using this) (by simpa using h1) (by simpa using h2) dX
theorem Nh:∀(xs:List Int),mC xs xs=0
 |[]=>rfl
 |x::xs=>by rw[mC,xi,if_pos rfl];exact Nh xs
theorem afm (Γ:Env) (f131:Γ.fn 131=some mB) (x0:Γ.mt 131=none) (ds:List D) (h:th.pre ds):bH Γ Hk Hl ds fun d=>d=th.res ds:=by
 obtain⟨xs,ax,rfl,hlen,rQ⟩:=h
 simp (maxSteps:=2000000) only[↓ak,aj,↓reduceIte,reduceCtorEq,Nat.reduceEqDiff,Nat.reduceLeDiff,Nat.reduceSub,Nat.reduceAdd,Int.reduceToNat,Nat.reducePow,Int.reducePow,Int.reduceLE,Int.reduceLT,IntKind.bits,Hk,Hl,th]
 refine cc (fun s=>s.af 0= .d (.ints .i64 xs)∧s.af 1= .d (.ints .i64 ax)∧mC xs ax=0) ?_ ?_
 ·simp (maxSteps:=2000000) only[↓ak,aj,↓reduceIte,reduceCtorEq,Nat.reduceEqDiff,Nat.reduceLeDiff,Nat.reduceSub,Nat.reduceAdd,Int.reduceToNat,Nat.reducePow,Int.reducePow,Int.reduceLE,Int.reduceLT,IntKind.bits]
  refine eC (fun s=>∃i:Nat,s.af 0= .d (.ints .i64 xs)∧s.af 1= .d (.ints .i64 ax)∧s.af 9= .d (.ints .i64 xs)∧s.af 10= .d (.int .i64 xs.length)∧s.af 11= .d (.int .i64 i)∧i≤xs.length∧∀k,k<i→xs.getD k 0=ax.getD k 0)
   (fun s=>match s.af 11 with| .d (.int _ n)=>xs.length - n.toNat|_=>0) ?_ ?_
  ·refine⟨0,?_⟩
   simp (maxSteps:=2000000) only[↓ak,aj,↓reduceIte,reduceCtorEq,Nat.reduceEqDiff,Nat.reduceLeDiff,Nat.reduceSub,Nat.reduceAdd,Int.reduceToNat,Nat.reducePow,Int.reducePow,Int.reduceLE,Int.reduceLT,IntKind.bits]
   repeat (refine And.intro (by first|omega|(simp only[aG];omega)|(simp only[aG]at*;omega)|(simp only[List.length_append,List.length_cons,List.length_nil,List.length_set,bL];omega)) ?_)
   exact fun k ad=>absurd ad (Nat.not_lt_zero _)
  ·rintro s ⟨i,h0,h1,bM,cB,hO,hi,ad⟩
   by_cases ci:(i:Int)<xs.length
   ·have a1:i<xs.length:=by omega
    have a6:i<ax.length:=by omega
    have cU:¬((i:Int)≥ax.length):=by omega
    by_cases qu:e0 (xs.getD i 0) (ax.getD i 0)=0
    ·have Kd:(e0 (xs.getD i 0) (ax.getD i 0) !=0)=false:=by rw[qu];rfl
     simp (maxSteps:=2000000) only[↓ak,aj,↓reduceIte,reduceCtorEq,Nat.reduceEqDiff,Nat.reduceLeDiff,Nat.reduceSub,Nat.reduceAdd,Int.reduceToNat,Nat.reducePow,Int.reducePow,Int.reduceLE,Int.reduceLT,IntKind.bits,h0,h1,bM,cB,hO,ci,a1,a6,cU,f131,x0,mB,Kd,Int.toNat_natCast]
     repeat (refine And.intro (by first|omega|(simp only[aG];omega)|(simp only[aG]at*;omega)|(simp only[List.length_append,List.length_cons,List.length_nil,List.length_set,bL];omega)) ?_)
     refine⟨⟨_,_,rfl⟩,?_⟩
     repeat (refine And.intro (by first|omega|(simp only[aG];omega)|(simp only[aG]at*;omega)|(simp only[List.length_append,List.length_cons,List.length_nil,List.length_set,bL];omega)) ?_)
     refine⟨⟨i+1,by omega,by omega,fun k bY=> ?_⟩,by omega⟩
     by_cases e:k=i
     ·subst e
      unfold e0 at qu
      split at qu
      ·omega
      ·split at qu<;>omega
     ·exact ad k (by omega)
    ·have Kd:(e0 (xs.getD i 0) (ax.getD i 0) !=0)=true:=bne_iff_ne.2 qu
     simp (maxSteps:=2000000) only[↓ak,aj,↓reduceIte,reduceCtorEq,Nat.reduceEqDiff,Nat.reduceLeDiff,Nat.reduceSub,Nat.reduceAdd,Int.reduceToNat,Nat.reducePow,Int.reducePow,Int.reduceLE,Int.reduceLT,IntKind.bits,h0,h1,bM,cB,hO,ci,a1,a6,cU,f131,x0,mB,Kd,Int.toNat_natCast]
     repeat (refine And.intro (by first|omega|(simp only[aG];omega)|(simp only[aG]at*;omega)|(simp only[List.length_append,List.length_cons,List.length_nil,List.length_set,bL];omega)) ?_)
     exact⟨⟨_,_,rfl⟩,by rw[Ng ad a1 a6 qu]⟩
   ·simp (maxSteps:=2000000) only[↓ak,aj,↓reduceIte,reduceCtorEq,Nat.reduceEqDiff,Nat.reduceLeDiff,Nat.reduceSub,Nat.reduceAdd,Int.reduceToNat,Nat.reducePow,Int.reducePow,Int.reduceLE,Int.reduceLT,IntKind.bits,h0,h1,bM,cB,hO,ci]
    have:xs=ax:=List.ext_getElem (by omega) fun k h1 h2=>by
     have:=ad k (by omega)
     rw[List.getD_eq_getElem?_getD,List.getElem?_eq_getElem h1,List.getD_eq_getElem?_getD,List.getElem?_eq_getElem h2]at this
     simpa using this
    rw[this]
    exact Nh ax
 ·rintro s ⟨h0,h1,ao⟩
  have c:¬((xs.length:Int)<ax.length):=by omega
  simp (maxSteps:=2000000) only[↓ak,aj,↓reduceIte,reduceCtorEq,Nat.reduceEqDiff,Nat.reduceLeDiff,Nat.reduceSub,Nat.reduceAdd,Int.reduceToNat,Nat.reducePow,Int.reducePow,Int.reduceLE,Int.reduceLT,IntKind.bits,h0,h1,c,ao]
theorem ab9 {a b x y p:Int} (h:e0 x y≠0) (aS:0<p) (a2:0≤a) (ar:0≤b) (mJ:a<p) (cK:b<p):e0 (a+p*x) (b+p*y)=e0 x y:=by
 unfold e0 at*
 by_cases h1:x<y
 ·have:p*(x+1)≤p*y:=Int.mul_le_mul_of_nonneg_left (by omega) (by omega)
  rw[Int.mul_add]at this
  rw[if_pos h1,if_pos (by omega)]
 ·by_cases h2:x>y
  ·have:p*(y+1)≤p*x:=Int.mul_le_mul_of_nonneg_left (by omega) (by omega)
   rw[Int.mul_add]at this
   rw[if_neg h1,if_pos h2,if_neg (by omega),if_pos (by omega)]
  ·rw[if_neg h1,if_neg h2]at h;exact absurd rfl h
theorem OE:∀(n:Nat) {xs ax:List Int},xs.length=n→ax.length=n→bQ xs→bQ ax→mC xs.reverse ax.reverse=e0 (val xs) (val ax)
 |0,xs,ax,h1,h2,_,_=>by
  rw[List.eq_nil_of_length_eq_zero h1,List.eq_nil_of_length_eq_zero h2,xi];rfl
 |n+1,xs,ax,h1,h2,cP,ga=>by
  have a1:xs=xs.take n++[xs.getD n 0]:=by
   rw[List.getD_eq_getElem?_getD,List.getElem?_eq_getElem (by omega)]
   conv=>lhs;rw[←List.take_append_drop n xs,List.drop_eq_getElem_cons (by omega),List.drop_of_length_le (by omega)]
   rfl
  have a6:ax=ax.take n++[ax.getD n 0]:=by
   rw[List.getD_eq_getElem?_getD,List.getElem?_eq_getElem (by omega)]
   conv=>lhs;rw[←List.take_append_drop n ax,List.drop_eq_getElem_cons (by omega),List.drop_of_length_le (by omega)]
   rfl
  have c8:(xs.take n).length=n:=by rw[List.length_take];omega
  have hP:(ax.take n).length=n:=by rw[List.length_take];omega
  have cm:=OE n c8 hP (cP.take n) (ga.take n)
  have v1:=ib (cP.take n)
  have v2:=ib (ga.take n)
  have d1:=cP.getD n
  have d2:=ga.getD n
  generalize xs.take n=X at*
  generalize ax.take n=Y at*
  generalize xs.getD n 0=x at*
  generalize ax.getD n 0=y at*
  subst a1 a6
  rw[c8]at v1
  rw[hP]at v2
  rw[List.reverse_append,List.reverse_append,List.reverse_singleton,List.reverse_singleton,List.singleton_append,List.singleton_append,mC,qQ,qQ,c8,hP,cm]
  simp only[Int.natCast_add,Int.natCast_mul,Int.toNat_of_nonneg d1.1,Int.toNat_of_nonneg d2.1]
  have aS:(0:Int)<((16777216^n:Nat):Int):=by have:=Nat.pow_pos (n:=n) (show 0<16777216 by decide);omega
  by_cases h:e0 x y=0
  ·rw[if_pos h]
   have:x=y:=by
    unfold e0 at h
    split at h
    ·omega
    ·split at h<;>omega
   subst this
   unfold e0
   by_cases c:val X<val Y
   ·rw[if_pos (by omega),if_pos (by omega)]
   ·by_cases cu:val X>val Y
    ·rw[if_neg (by omega),if_pos (by omega),if_neg (by omega),if_pos (by omega)]
    ·rw[if_neg (by omega),if_neg (by omega),if_neg (by omega),if_neg (by omega)]
  ·rw[if_neg h,ab9 h aS (by omega) (by omega) (by omega) (by omega)]
def vr:bq where
 pre:=fun ds=>∃x:Int,ds=[.int .u64 x]∧0≤x∧x<18446744073709551616
 res:=fun ds=>match ds with
  |[.int _ x]=> .int .i64 (bc x.toNat)
  |_=> .nilp
def jQ:bq where
 pre:=fun ds=>∃n:Nat,ds=[a7 n]∧(ai n).length≤100000
 res:=fun ds=>match ds with
  |[.ints _ xs]=> .int .i64 (bc (val xs))
  |_=> .nilp
theorem ahM (Γ:Env) (f128:Γ.fn 128=some vr) (afn:Γ.mt 128=none) (ds:List D) (h:jQ.pre ds):bH Γ CT CU ds fun d=>d=jQ.res ds:=by
 obtain⟨n,rfl,hlen⟩:=h
 by_cases h0:n=0
 ·subst h0
  simp (maxSteps:=2000000) only[↓ak,aj,↓reduceIte,reduceCtorEq,Nat.reduceEqDiff,Nat.reduceLeDiff,Nat.reduceSub,Nat.reduceAdd,Int.reduceToNat,Nat.reducePow,Int.reducePow,Int.reduceLE,Int.reduceLT,IntKind.bits,CT,CU,jQ,gf,List.length_nil]
  rfl
 ·have aS:=qG h0
  have eW:(((ai n).length:Int)==0)=false:=beq_false_of_ne (by omega)
  have ar:=Oq (cN n) (Ot h0) (DJ h0)
  have aC:=(cN n).getD ((ai n).length - 1)
  have a1:(((ai n).length:Int) - 1).toNat=(ai n).length - 1:=by omega
  have bB:(0:Int)≤((ai n).length:Int) - 1:=by omega
  have cu:((ai n).length - 1)<(ai n).length:=by omega
  have hw:IntKind.u64.wrap ((ai n).getD ((ai n).length - 1) 0)=(ai n).getD ((ai n).length - 1) 0:=by
   generalize (ai n).getD ((ai n).length - 1) 0=x at*
   unfold IntKind.wrap
   simp only[show IntKind.u64.bits=64 from rfl,show IntKind.u64.signed=false from rfl,Bool.false_and,Bool.false_eq_true,if_false]
   omega
  have gQ:bc ((ai n).getD ((ai n).length - 1) 0).toNat≤24:=hS.2 (by have:=aC.2;omega)
  simp (maxSteps:=2000000) only[↓ak,aj,↓reduceIte,reduceCtorEq,Nat.reduceEqDiff,Nat.reduceLeDiff,Nat.reduceSub,Nat.reduceAdd,Int.reduceToNat,Nat.reducePow,Int.reducePow,Int.reduceLE,Int.reduceLT,IntKind.bits,CT,CU,jQ,eW,a1,bB,cu,bO,f128,afn,vr,hw]
  rw[bO]at ar
  repeat (refine And.intro (by first|omega|(simp only[aG];omega)|(simp only[aG]at*;omega)|(simp only[List.length_append,List.length_cons,List.length_nil,List.length_set,bL];omega)) ?_)
  refine⟨⟨_,rfl,aC.1,by omega⟩,?_⟩
  repeat (refine And.intro (by first|omega|(simp only[aG];omega)|(simp only[aG]at*;omega)|(simp only[List.length_append,List.length_cons,List.length_nil,List.length_set,bL];omega)) ?_)
  rw[ar]
  omega
def kQ:bq where
 pre:=fun ds=>∃(xs:List Int) (k:Int),ds=[.ints .i64 xs,.int .i64 k]∧bQ xs∧xs.length≤10000∧k≤200000
 res:=fun ds=>match ds with
  |[.ints _ xs,.int _ k]=>a7 (val xs*2^k.toNat)
  |_=> .nilp
theorem afo (Γ:Env) (f117:Γ.fn 117=some kd) (oI:Γ.mt 117=none) (nL:Γ.mt 118=some jl) (ds:List D) (h:kQ.pre ds):bH Γ Gl Gm ds fun d=>d=kQ.res ds:=by
 obtain⟨xs,k,rfl,ah,cP,ad⟩:=h
 obtain⟨K,bV⟩:∃K:Nat,K=k.toNat:=⟨_,rfl⟩
 have rR:(if (0:Int)>k then 0 else k)=(K:Int):=by split<;>omega
 obtain⟨Q,cn⟩:∃Q:Nat,Q=K / 24:=⟨_,rfl⟩
 obtain⟨R,dF⟩:∃R:Nat,R=K % 24:=⟨_,rfl⟩
 have SP:R≤64:=by omega
 have d1:(K:Int).tdiv 24=(Q:Int):=by rw[cn];rfl
 have d2:(K:Int).tmod 24=(R:Int):=by rw[dF];rfl
 have iS:((Q:Int)+xs.length+1).toNat=Q+xs.length+1:=by omega
 have k9:Q+(Q+xs.length+1 - Q)≤Q+xs.length+1:=by omega
 have ur:xs.take (Q+xs.length+1 - Q)=xs:=List.take_of_length_le (by omega)
 have qx:xs.length≤Q+xs.length+1 - Q:=by omega
 have Dy:(List.replicate (Q+xs.length+1) (0:Int)).take Q++(xs++(List.replicate (Q+xs.length+1) (0:Int)).drop (Q+xs.length))=List.replicate Q 0++(xs++[0]):=by
  rw[List.take_replicate,List.drop_replicate,Nat.min_eq_left (by omega),show Q+xs.length+1 - (Q+xs.length)=1 by omega];rfl
 simp (maxSteps:=2000000) only[↓ak,aj,↓reduceIte,reduceCtorEq,Nat.reduceEqDiff,Nat.reduceLeDiff,Nat.reduceSub,Nat.reduceAdd,Int.reduceToNat,Nat.reducePow,Int.reducePow,Int.reduceLE,Int.reduceLT,IntKind.bits,Gl,Gm,kQ,rR,d1,d2,iS,k9,ur,qx,Dy]
 rw[bV]at*
 repeat (refine And.intro (by first|omega|(simp only[aG];omega)|(simp only[aG]at*;omega)|(simp only[List.length_append,List.length_cons,List.length_nil,List.length_set,bL];omega)) ?_)
 have gH:k.toNat=24*Q+R:=by omega
 obtain⟨p,aS⟩:∃p:Nat,p=2^R:=⟨_,rfl⟩
 have CV:16777216^Q*p=2^k.toNat:=by rw[aS,q4,←Nat.pow_add,gH]
 have iJ:p≤8388608:=by
  have:2^R≤2^23:=Nat.pow_le_pow_right (by decide) (by omega)
  omega
 refine cc (fun s=>s.af 7= .own 21 0 (Q+xs.length+1)∧∃out:List Int,s.aw 21=some ⟨false,false,.ints .i64 out⟩∧bQ out∧out.length=Q+xs.length+1∧val out=val xs*2^k.toNat) ?_ ?_
 ·simp (maxSteps:=2000000) only[↓ak,aj,↓reduceIte,reduceCtorEq,Nat.reduceEqDiff,Nat.reduceLeDiff,Nat.reduceSub,Nat.reduceAdd,Int.reduceToNat,Nat.reducePow,Int.reducePow,Int.reduceLE,Int.reduceLT,IntKind.bits]
  refine eC (fun s=>∃(out:List Int) (c j:Nat),s.af 5= .d (.int .i64 Q)∧s.af 6= .d (.int .i64 R)∧s.af 7= .own 21 0 (Q+xs.length+1)∧s.af 8= .box 8 0∧s.aw 8=some ⟨false,false,.cells [.d (.int .i64 c)]⟩∧s.af 9= .d (.int .i64 (Q+j:Nat))∧
   s.aw 21=some ⟨false,false,.ints .i64 out⟩∧bQ out∧out.length=Q+xs.length+1∧j≤xs.length+1∧c<16777216∧(∀i,j≤i→out.getD (Q+i) 0=xs.getD i 0)∧val (out.take (Q+j))+16777216^(Q+j)*c=16777216^Q*(p*val (xs.take j)))
   (fun s=>match s.af 9 with| .d (.int _ n)=>Q+xs.length+1 - n.toNat|_=>0) ?_ ?_
  ·refine⟨List.replicate Q 0++(xs++[0]),0,0,?_⟩
   simp (maxSteps:=2000000) only[↓ak,aj,↓reduceIte,reduceCtorEq,Nat.reduceEqDiff,Nat.reduceLeDiff,Nat.reduceSub,Nat.reduceAdd,Int.reduceToNat,Nat.reducePow,Int.reducePow,Int.reduceLE,Int.reduceLT,IntKind.bits,Int.natCast_zero,Nat.add_zero]
   (repeat' apply And.intro)<;>first|with_reducible rfl|omega|(simp only[List.length_append,List.length_cons,List.length_nil,List.length_set,List.length_replicate];omega)|(simp only[aG];omega)|(simp only[List.length_set];done)|(rw[Int.toNat_of_nonneg (by omega)];done)|exact(bQ.append (fun x ah=>by rw[List.eq_of_mem_replicate ah];decide) (ah.snoc (by decide) (by decide)))|exact(fun i _=>by
    rw[List.getD_eq_getElem?_getD,List.getElem?_append_right (by rw[List.length_replicate];omega),List.length_replicate,Nat.add_sub_cancel_left,←List.getD_eq_getElem?_getD]
    rcases Nat.lt_or_ge i xs.length with h|h
    ·rw[List.getD_eq_getElem?_getD,List.getElem?_append_left h,←List.getD_eq_getElem?_getD]
    ·rw[List.getD_eq_getElem?_getD,List.getElem?_append_right h,List.getD_eq_getElem?_getD,List.getElem?_eq_none (l:=xs) h]
     rcases Nat.eq_zero_or_pos (i - xs.length)with h0|h0
     ·rw[h0];rfl
     ·rw[List.getElem?_eq_none (by simp;omega)])|exact(by
    rw[List.take_append_of_le_length (by simp),List.take_of_length_le (by simp),uH];simp[val])
  ·rintro s ⟨out,c,j,aI,aM,a4,bz,b3,bM,p8,aB,hlen,az,ao,kK,aA⟩
   by_cases zi:((Q+j:Nat):Int)<(Q+xs.length+1:Nat)
   ·have a1:Q+j<Q+xs.length+1:=by omega
    have yL:=ah.getD j
    have bb:=kK j (Nat.le_refl _)
    have pK:xs.getD j 0*2^R=(((xs.getD j 0).toNat*p:Nat):Int):=by rw[Int.natCast_mul,Int.toNat_of_nonneg yL.1,aS,Int.natCast_pow];rfl
    have p7:(xs.getD j 0).toNat*p≤16777215*8388608:=Nat.mul_le_mul (by omega) iJ
    simp (maxSteps:=2000000) only[↓ak,aj,↓reduceIte,reduceCtorEq,Nat.reduceEqDiff,Nat.reduceLeDiff,Nat.reduceSub,Nat.reduceAdd,Int.reduceToNat,Nat.reducePow,Int.reducePow,Int.reduceLE,Int.reduceLT,IntKind.bits,bF,Nat.reduceBneDiff,Nat.reduceBeqDiff,Nat.reduceLT,List.flatMap_cons,List.flatMap_nil,List.append_nil,List.nil_append,List.cons_append,List.filter_cons,List.filter_nil,List.contains_cons,List.contains_nil,bne_self_eq_false,beq_self_eq_true,List.map_cons,List.map_nil,aI,aM,a4,bz,b3,bM,p8,zi,a1,hlen,Int.toNat_natCast,bb,SP,pK,nL,jl]
    have er:=abo (out:=out) (x:=(xs.getD j 0).toNat) (by omega) aA
    have hF:(xs.getD j 0).toNat*p≤140737488355328:=by omega
    rw[←wC]at er
    generalize (xs.getD j 0).toNat*p=X at*
    repeat (refine And.intro (by first|omega|(simp only[aG];omega)|(simp only[aG]at*;omega)|(simp only[List.length_append,List.length_cons,List.length_nil,List.length_set,bL];omega)) ?_)
    refine⟨⟨_,_,rfl,rfl,by omega⟩,?_⟩
    repeat (refine And.intro (by first|omega|(simp only[aG];omega)|(simp only[aG]at*;omega)|(simp only[List.length_append,List.length_cons,List.length_nil,List.length_set,bL];omega)) ?_)
    refine⟨⟨out.set (Q+j) (((X:Int)+c) % 16777216),(((X:Int)+c) / 16777216).toNat,j+1,?_⟩,by omega⟩
    (repeat' apply And.intro)<;>first|with_reducible rfl|omega|(simp only[List.length_append,List.length_cons,List.length_nil,List.length_set,List.length_replicate];omega)|(simp only[aG];omega)|(simp only[List.length_set];done)|(rw[Int.toNat_of_nonneg (by omega)];done)|exact aB.set _ (by omega) (by omega)|exact(fun i hi=>by rw[og (by omega)];exact kK i (by omega))|exact er
   ·simp (maxSteps:=2000000) only[↓ak,aj,↓reduceIte,reduceCtorEq,Nat.reduceEqDiff,Nat.reduceLeDiff,Nat.reduceSub,Nat.reduceAdd,Int.reduceToNat,Nat.reducePow,Int.reducePow,Int.reduceLE,Int.reduceLT,IntKind.bits,aI,aM,a4,bz,b3,bM,p8,zi]
    have:j=xs.length+1:=by omega
    subst this
    rw[List.take_of_length_le (by omega),List.take_of_length_le (by omega),←Nat.mul_assoc]at aA
    refine⟨out,rfl,aB,hlen,?_⟩
    have:=carry_zero aA (by rw[←Nat.add_assoc];exact ab3 ah (by omega))
    rw[this.2,CV,Nat.mul_comm]
 ·rintro s ⟨a4,out,p8,aB,hlen,aA⟩
  simp (maxSteps:=2000000) only[↓ak,aj,↓reduceIte,reduceCtorEq,Nat.reduceEqDiff,Nat.reduceLeDiff,Nat.reduceSub,Nat.reduceAdd,Int.reduceToNat,Nat.reducePow,Int.reducePow,Int.reduceLE,Int.reduceLT,IntKind.bits,a4,p8,f117,oI,kd,←hlen,List.take_length]
  exact⟨⟨out,rfl,aB,by omega⟩,by rw[aA]⟩
def jR:bq where
 pre:=fun ds=>∃(xs:List Int) (k:Int),ds=[.ints .i64 xs,.int .i64 k]∧bQ xs∧xs.length≤20000∧aG k
 res:=fun ds=>match ds with
  |[.ints _ xs,.int _ k]=>a7 (val xs / 2^k.toNat)
  |_=> .nilp
theorem ahN (Γ:Env) (f117:Γ.fn 117=some kd) (oI:Γ.mt 117=none) (f116:Γ.fn 116=some rj) (HG:Γ.mt 116=none) (ds:List D) (h:jR.pre ds):bH Γ CM CN ds fun d=>d=jR.res ds:=by
 obtain⟨xs,k,rfl,ah,cP,mM⟩:=h
 obtain⟨K,bV⟩:∃K:Nat,K=k.toNat:=⟨_,rfl⟩
 have rR:(if (0:Int)>k then 0 else k)=(K:Int):=by split<;>omega
 obtain⟨Q,cn⟩:∃Q:Nat,Q=K / 24:=⟨_,rfl⟩
 obtain⟨R,dF⟩:∃R:Nat,R=K % 24:=⟨_,rfl⟩
 have d1:(K:Int).tdiv 24=(Q:Int):=by rw[cn];rfl
 have d2:(K:Int).tmod 24=(R:Int):=by rw[dF];rfl
 have gH:k.toNat=24*Q+R:=by omega
 obtain⟨p,aS⟩:∃p:Nat,p=2^R:=⟨_,rfl⟩
 have eM:0<p:=by rw[aS];exact Nat.two_pow_pos _
 have CV:16777216^Q*p=2^k.toNat:=by rw[aS,q4,←Nat.pow_add,gH]
 by_cases eW:(Q:Int)≥xs.length
 ·simp (maxSteps:=2000000) only[↓ak,aj,↓reduceIte,reduceCtorEq,Nat.reduceEqDiff,Nat.reduceLeDiff,Nat.reduceSub,Nat.reduceAdd,Int.reduceToNat,Nat.reducePow,Int.reducePow,Int.reduceLE,Int.reduceLT,IntKind.bits,CM,CN,jR,rR,d1,d2,eW]
  simp only[aG]at mM
  repeat (refine And.intro (by first|omega|(simp only[aG];omega)|(simp only[aG]at*;omega)|(simp only[List.length_append,List.length_cons,List.length_nil,List.length_set,bL];omega)) ?_)
  have h1:=zE ah Q
  rw[List.drop_of_length_le (by omega)]at h1
  rw[←CV,←Nat.div_div_eq_div_mul,←h1]
  simp[val,gf]
 ·have bB:Q≤xs.length:=by omega
  have iS:(xs.drop Q).take (xs.length - Q)=xs.drop Q:=List.take_of_length_le (by simp)
  obtain⟨q,aZ⟩:∃q:Nat,q=2^(24 - R):=⟨_,rfl⟩
  have SP:R<24:=by omega
  have lQ:p*q=16777216:=by rw[aS,aZ,←Nat.pow_add,show R+(24 - R)=24 by omega]
  have Ke:q≤16777216:=by
   have:1*q≤p*q:=Nat.mul_le_mul_right _ eM
   omega
  obtain⟨zs,lO⟩:∃zs,zs=xs.drop Q:=⟨_,rfl⟩
  have bg:bQ zs:=by rw[lO];exact ah.drop Q
  have HM:zs.length=xs.length - Q:=by rw[lO,List.length_drop]
  have ahO:∀i,xs.getD (Q+i) 0=zs.getD i 0:=fun i=>by rw[lO,List.getD_eq_getElem?_getD,List.getD_eq_getElem?_getD,List.getElem?_drop]
  have ye:val zs / p=val xs / 2^k.toNat:=by rw[lO,zE ah,Nat.div_div_eq_div_mul,CV]
  simp (maxSteps:=2000000) only[↓ak,aj,↓reduceIte,reduceCtorEq,Nat.reduceEqDiff,Nat.reduceLeDiff,Nat.reduceSub,Nat.reduceAdd,Int.reduceToNat,Nat.reducePow,Int.reducePow,Int.reduceLE,Int.reduceLT,IntKind.bits,CM,CN,jR,rR,d1,d2,eW,bB,f116,HG,rj,Int.toNat_natCast,List.take_length,←lO]
  simp only[aG]at mM
  repeat (refine And.intro (by first|omega|(simp only[aG];omega)|(simp only[aG]at*;omega)|(simp only[List.length_append,List.length_cons,List.length_nil,List.length_set,bL];omega)) ?_)
  refine⟨⟨zs,rfl,by omega⟩,?_⟩
  refine cc (fun s=>s.af 7= .own 22 0 zs.length∧∃out:List Int,s.aw 22=some ⟨false,false,.ints .i64 out⟩∧bQ out∧out.length=zs.length∧val out=val zs / p) ?_ ?_
  ·simp (maxSteps:=2000000) only[↓ak,aj,↓reduceIte,reduceCtorEq,Nat.reduceEqDiff,Nat.reduceLeDiff,Nat.reduceSub,Nat.reduceAdd,Int.reduceToNat,Nat.reducePow,Int.reducePow,Int.reduceLE,Int.reduceLT,IntKind.bits]
   refine eC (fun s=>∃(out:List Int) (i:Nat),s.af 0= .d (.ints .i64 xs)∧s.af 5= .d (.int .i64 Q)∧s.af 6= .d (.int .i64 R)∧s.af 7= .own 22 0 zs.length∧s.af 24= .d (.int .i64 zs.length)∧s.af 25= .d (.int .i64 i)∧
    s.aw 22=some ⟨false,false,.ints .i64 out⟩∧bQ out∧out.length=zs.length∧i≤zs.length∧(∀k,i≤k→out.getD k 0=zs.getD k 0)∧val (out.take i)+16777216^i*(val (zs.drop i) / p)=val zs / p)
    (fun s=>match s.af 25 with| .d (.int _ n)=>zs.length - n.toNat|_=>0) ?_ ?_
   ·refine⟨zs,0,?_⟩
    simp (maxSteps:=2000000) only[↓ak,aj,↓reduceIte,reduceCtorEq,Nat.reduceEqDiff,Nat.reduceLeDiff,Nat.reduceSub,Nat.reduceAdd,Int.reduceToNat,Nat.reducePow,Int.reducePow,Int.reduceLE,Int.reduceLT,IntKind.bits]
    (repeat' apply And.intro)<;>first|with_reducible rfl|omega|(simp only[List.length_append,List.length_cons,List.length_nil,List.length_set,List.length_replicate];omega)|(simp only[aG];omega)|(simp only[List.length_set];done)|(rw[Int.toNat_of_nonneg (by omega)];done)|exact bg|exact(fun _ _=>rfl)|exact(by simp[val])
   ·rintro s ⟨out,i,h0,aI,aM,a4,fJ,mT,yP,aB,hlen,hi,kK,aA⟩
    by_cases ci:(i:Int)<zs.length
    ·have a1:i<zs.length:=by omega
     have k1:=bg.getD i
     have yL:=bg.getD (i+1)
     obtain⟨x,hF⟩:∃x:Nat,zs.getD i 0=(x:Int):=⟨_,(Int.toNat_of_nonneg k1.1).symm⟩
     obtain⟨y,hg⟩:∃y:Nat,zs.getD (i+1) 0=(y:Int):=⟨_,(Int.toNat_of_nonneg yL.1).symm⟩
     have bb:out.getD i 0=(x:Int):=by rw[kK i (Nat.le_refl _),hF]
     have a6:R≤64:=by omega
     have cU:(x:Int).fdiv (2^R)=((x / p:Nat):Int):=by
      rw[show (2:Int)^R=((p:Nat):Int)by rw[aS,Int.natCast_pow];rfl,Int.fdiv_eq_ediv_of_nonneg _ (by omega)]
      rfl
     have cx:(out.set i ((x / p:Nat):Int)).getD i 0=((x / p:Nat):Int):=D6 (by omega) _
     have p7:=Ov eM lQ (x:=x) (by omega) y
     have er:=Ou eM lQ x (val (zs.drop (i+1)))
     rw[Ma lQ,hg,Int.toNat_natCast]at er
     rw[lk zs i,hF,Int.toNat_natCast,er]at aA
     have hle:x / p≤x:=Nat.div_le_self _ _
     have SQ:∀u:Int,u=((x / p+y % p*q:Nat):Int)→val ((out.set i u).take (i+1))+16777216^(i+1)*(val (zs.drop (i+1)) / p)=val zs / p:=by
      rintro u rfl
      rw[zF (by omega),Int.toNat_natCast,←aA,Nat.pow_succ,Nat.mul_assoc,Nat.add_assoc,←Nat.mul_add]
     have Q7:∀u:Int,∀k,i+1≤k→(out.set i u).getD k 0=zs.getD k 0:=fun u k ad=>by rw[og (by omega)];exact kK k (by omega)
     by_cases cu:(Q:Int)+i+1<xs.length
     ·have dx:((Q:Int)+i+1).toNat=Q+(i+1):=by omega
      have eJ:xs.getD (Q+(i+1)) 0=(y:Int):=by rw[ahO,hg]
      have zf:((24:Int) - R).toNat=24 - R:=by omega
      have jY:24 - R≤64:=by omega
      have akD:(y:Int)*2^(24 - R)=((y*q:Nat):Int):=by rw[Int.natCast_mul,aZ,Int.natCast_pow];rfl
      have CW:((y*q:Nat):Int) % 16777216=((y % p*q:Nat):Int):=by
       rw[show (16777216:Int)=((p*q:Nat):Int)by rw[lQ];rfl,←Int.natCast_emod,Nat.mul_mod_mul_right]
      have ahP:ya .i64 ((x / p:Nat):Int) ((y % p*q:Nat):Int)=((x / p+y % p*q:Nat):Int):=by
       refine acS (k:=24 - R) (c:=y % p) ?_ ?_ (by omega)
       ·rw[←aZ,Nat.div_lt_iff_lt_mul eM,Nat.mul_comm,lQ];omega
       ·rw[←aZ,Nat.mul_comm]
      have alJ:y*q≤16777215*16777216:=Nat.mul_le_mul (by omega) Ke
      have yQ:Q+(i+1)<xs.length:=by omega
      simp (maxSteps:=2000000) only[↓ak,aj,↓reduceIte,reduceCtorEq,Nat.reduceEqDiff,Nat.reduceLeDiff,Nat.reduceSub,Nat.reduceAdd,Int.reduceToNat,Nat.reducePow,Int.reducePow,Int.reduceLE,Int.reduceLT,IntKind.bits,h0,aI,aM,a4,fJ,mT,yP,ci,a1,hlen,bb,a6,cU,cx,cu,dx,eJ,zf,jY,akD,CW,ahP,yQ,EA,Int.toNat_natCast,List.length_set,List.set_set]
      have hf:=SQ _ rfl
      generalize y*q=amo at*
      generalize x / p=U at*
      generalize y % p*q=W at*
      repeat (refine And.intro (by first|omega|(simp only[aG];omega)|(simp only[aG]at*;omega)|(simp only[List.length_append,List.length_cons,List.length_nil,List.length_set,bL];omega)) ?_)
      refine⟨⟨out.set i ((U+W:Nat):Int),i+1,?_⟩,by omega⟩
      (repeat' apply And.intro)<;>first|with_reducible rfl|omega|(simp only[List.length_append,List.length_cons,List.length_nil,List.length_set,List.length_replicate];omega)|(simp only[aG];omega)|(simp only[List.length_set];done)|(rw[Int.toNat_of_nonneg (by omega)];done)|exact aB.set _ (by omega) (by omega)|exact Q7 _|exact hf
     ·have Kf:y=0:=by
       rw[List.getD_eq_getElem?_getD,List.getElem?_eq_none (by omega)]at hg
       simp only[Option.getD_none]at hg;omega
      subst Kf
      have hf:=SQ ((x / p:Nat):Int) (by rw[Nat.zero_mod,Nat.zero_mul,Nat.add_zero])
      simp (maxSteps:=2000000) only[↓ak,aj,↓reduceIte,reduceCtorEq,Nat.reduceEqDiff,Nat.reduceLeDiff,Nat.reduceSub,Nat.reduceAdd,Int.reduceToNat,Nat.reducePow,Int.reducePow,Int.reduceLE,Int.reduceLT,IntKind.bits,h0,aI,aM,a4,fJ,mT,yP,ci,a1,hlen,bb,a6,cU,cx,cu,Int.toNat_natCast,List.length_set,List.set_set]
      generalize x / p=U at*
      repeat (refine And.intro (by first|omega|(simp only[aG];omega)|(simp only[aG]at*;omega)|(simp only[List.length_append,List.length_cons,List.length_nil,List.length_set,bL];omega)) ?_)
      refine⟨⟨out.set i (U:Int),i+1,?_⟩,by omega⟩
      (repeat' apply And.intro)<;>first|with_reducible rfl|omega|(simp only[List.length_append,List.length_cons,List.length_nil,List.length_set,List.length_replicate];omega)|(simp only[aG];omega)|(simp only[List.length_set];done)|(rw[Int.toNat_of_nonneg (by omega)];done)|exact aB.set _ (by omega) (by omega)|exact Q7 _|exact hf
    ·simp (maxSteps:=2000000) only[↓ak,aj,↓reduceIte,reduceCtorEq,Nat.reduceEqDiff,Nat.reduceLeDiff,Nat.reduceSub,Nat.reduceAdd,Int.reduceToNat,Nat.reducePow,Int.reducePow,Int.reduceLE,Int.reduceLT,IntKind.bits,h0,aI,aM,a4,fJ,mT,yP,ci]
     have:i=zs.length:=by omega
     subst this
     rw[List.take_of_length_le (by omega),List.drop_length]at aA
     refine⟨out,rfl,aB,hlen,?_⟩
     rw[←aA];simp[val]
  ·rintro s ⟨a4,out,yP,aB,hlen,aA⟩
   simp (maxSteps:=2000000) only[↓ak,aj,↓reduceIte,reduceCtorEq,Nat.reduceEqDiff,Nat.reduceLeDiff,Nat.reduceSub,Nat.reduceAdd,Int.reduceToNat,Nat.reducePow,Int.reducePow,Int.reduceLE,Int.reduceLT,IntKind.bits,a4,yP,f117,oI,kd,←hlen,List.take_length]
   exact⟨⟨out,rfl,aB,by omega⟩,by rw[aA,ye]⟩
def rk:fL where
 pre:=fun bG cs=>∃(xs:List Int) (b i:Nat),bG=[.own bF 0 xs.length,.d (.int .i64 b),.d (.int .i64 i)]∧cs=[.ints .i64 xs]∧bQ xs∧xs.length≤100000∧b≤2∧i≤4∧val xs*2^b+i<16777216^xs.length
 res:=fun bG cs=> .ep []
 out:=fun bG cs=>match bG,cs with
  |[_,.d (.int _ b),.d (.int _ i)],[.ints _ xs]=>[.ints .i64 (eF xs.length (val xs*2^b.toNat+i.toNat))]
  |_,_=>[]
theorem afp (Γ:Env) (nL:Γ.mt 118=some jl) (bG:List ag) (cs:List BC) (h:rk.pre bG cs):nE Γ G2 G3 bG cs fun d cs'=>d=rk.res bG cs∧cs'=rk.out bG cs:=by
 obtain⟨xs,b,k,rfl,rfl,ah,hlen,ar,ad,Br⟩:=h
 obtain⟨p,aS⟩:∃p:Nat,p=2^b:=⟨_,rfl⟩
 have iJ:p≤4:=by
  have:2^b≤2^2:=Nat.pow_le_pow_right (by decide) ar
  omega
 rw[←aS]at Br
 simp (maxSteps:=2000000) only[↓ak,aj,↓reduceIte,reduceCtorEq,Nat.reduceEqDiff,Nat.reduceLeDiff,Nat.reduceSub,Nat.reduceAdd,Int.reduceToNat,Nat.reducePow,Int.reducePow,Int.reduceLE,Int.reduceLT,IntKind.bits,bF,Nat.reduceBneDiff,Nat.reduceBeqDiff,Nat.reduceLT,List.flatMap_cons,List.flatMap_nil,List.append_nil,List.nil_append,List.cons_append,List.filter_cons,List.filter_nil,List.contains_cons,List.contains_nil,bne_self_eq_false,beq_self_eq_true,List.map_cons,List.map_nil,G2,G3,rk,Int.toNat_natCast,←aS]
 refine eC (fun s=>∃(fu:List Int) (c i:Nat),s.af 0= .own 1000000 0 xs.length∧s.af 1= .d (.int .i64 b)∧s.af 6= .box 6 0∧s.aw 6=some ⟨false,false,.cells [.d (.int .i64 c)]⟩∧s.af 10= .d (.int .i64 xs.length)∧s.af 11= .d (.int .i64 i)∧
  s.aw 1000000=some ⟨false,true,.ints .i64 fu⟩∧bQ fu∧fu.length=xs.length∧i≤xs.length∧c<16777216∧(∀j,i≤j→fu.getD j 0=xs.getD j 0)∧val (fu.take i)+16777216^i*c=val (xs.take i)*p+k)
  (fun s=>match s.af 11 with| .d (.int _ n)=>xs.length - n.toNat|_=>0) ?_ ?_
 ·refine⟨xs,k,0,?_⟩
  simp (maxSteps:=2000000) only[↓ak,aj,↓reduceIte,reduceCtorEq,Nat.reduceEqDiff,Nat.reduceLeDiff,Nat.reduceSub,Nat.reduceAdd,Int.reduceToNat,Nat.reducePow,Int.reducePow,Int.reduceLE,Int.reduceLT,IntKind.bits,bF,Nat.reduceBneDiff,Nat.reduceBeqDiff,Nat.reduceLT,List.flatMap_cons,List.flatMap_nil,List.append_nil,List.nil_append,List.cons_append,List.filter_cons,List.filter_nil,List.contains_cons,List.contains_nil,bne_self_eq_false,beq_self_eq_true,List.map_cons,List.map_nil,true_and]
  (repeat' apply And.intro)<;>first|with_reducible rfl|omega|(simp only[List.length_append,List.length_cons,List.length_nil,List.length_set,List.length_replicate];omega)|(simp only[aG];omega)|(simp only[List.length_set];done)|(rw[Int.toNat_of_nonneg (by omega)];done)|exact ah|exact(fun _ _=>rfl)|exact(by simp[val])
 ·rintro s ⟨fu,c,i,h0,h1,aM,a0,cB,hO,h6,aB,gO,hi,ao,kK,aA⟩
  by_cases ci:(i:Int)<xs.length
  ·have a1:i<xs.length:=by omega
   have k1:=ah.getD i
   have bb:=kK i (Nat.le_refl _)
   have a6:b≤64:=by omega
   have pK:xs.getD i 0*2^b=(((xs.getD i 0).toNat*p:Nat):Int):=by rw[Int.natCast_mul,Int.toNat_of_nonneg k1.1,aS,Int.natCast_pow];rfl
   have p7:(xs.getD i 0).toNat*p≤16777215*4:=Nat.mul_le_mul (by omega) iJ
   have er:=acO (out:=fu) (p:=p) (by omega) (xs.getD i 0).toNat aA
   have b5:val (xs.take (i+1))*p+k=val (xs.take i)*p+k+16777216^i*((xs.getD i 0).toNat*p):=by
    rw[wC,Nat.add_mul,Nat.mul_assoc];omega
   rw[←b5]at er
   simp (maxSteps:=2000000) only[↓ak,aj,↓reduceIte,reduceCtorEq,Nat.reduceEqDiff,Nat.reduceLeDiff,Nat.reduceSub,Nat.reduceAdd,Int.reduceToNat,Nat.reducePow,Int.reducePow,Int.reduceLE,Int.reduceLT,IntKind.bits,bF,Nat.reduceBneDiff,Nat.reduceBeqDiff,Nat.reduceLT,List.flatMap_cons,List.flatMap_nil,List.append_nil,List.nil_append,List.cons_append,List.filter_cons,List.filter_nil,List.contains_cons,List.contains_nil,bne_self_eq_false,beq_self_eq_true,List.map_cons,List.map_nil,h0,h1,aM,a0,cB,hO,h6,ci,a1,a6,gO,bb,pK,nL,jl,Int.toNat_natCast,List.length_set]
   generalize (xs.getD i 0).toNat*p=X at*
   repeat (refine And.intro (by first|omega|(simp only[aG];omega)|(simp only[aG]at*;omega)|(simp only[List.length_append,List.length_cons,List.length_nil,List.length_set,bL];omega)) ?_)
   refine⟨⟨_,_,rfl,rfl,by omega⟩,?_⟩
   repeat (refine And.intro (by first|omega|(simp only[aG];omega)|(simp only[aG]at*;omega)|(simp only[List.length_append,List.length_cons,List.length_nil,List.length_set,bL];omega)) ?_)
   refine⟨⟨fu.set i (((X:Int)+c) % 16777216),(((X:Int)+c) / 16777216).toNat,i+1,?_⟩,by omega⟩
   (repeat' apply And.intro)<;>first|with_reducible rfl|omega|(simp only[List.length_append,List.length_cons,List.length_nil,List.length_set,List.length_replicate];omega)|(simp only[aG];omega)|(simp only[List.length_set];done)|(rw[Int.toNat_of_nonneg (by omega)];done)|exact aB.set _ (by omega) (by omega)|exact(fun j az=>by rw[og (by omega)];exact kK j (by omega))|exact er
  ·simp (maxSteps:=2000000) only[↓ak,aj,↓reduceIte,reduceCtorEq,Nat.reduceEqDiff,Nat.reduceLeDiff,Nat.reduceSub,Nat.reduceAdd,Int.reduceToNat,Nat.reducePow,Int.reducePow,Int.reduceLE,Int.reduceLT,IntKind.bits,bF,Nat.reduceBneDiff,Nat.reduceBeqDiff,Nat.reduceLT,List.flatMap_cons,List.flatMap_nil,List.append_nil,List.nil_append,List.cons_append,List.filter_cons,List.filter_nil,List.contains_cons,List.contains_nil,bne_self_eq_false,beq_self_eq_true,List.map_cons,List.map_nil,h0,h1,aM,a0,cB,hO,h6,ci]
   have:i=xs.length:=by omega
   subst this
   rw[List.take_of_length_le (by omega),List.take_length]at aA
   have:=carry_zero aA Br
   rw[←this.2,←gO,ES aB]
def pP:fL where
 pre:=fun bG cs=>∃(xs ax:List Int),bG=[.own bF 0 xs.length,.own (bF+1) 0 ax.length]∧cs=[.ints .i64 xs,.ints .i64 ax]∧bQ xs∧bQ ax∧xs.length≤100000∧ax.length=xs.length
 res:=fun bG cs=>match cs with
  |[.ints _ xs,.ints _ ax]=> .bool (decide (val ax≤val xs))
  |_=> .nilp
 out:=fun bG cs=>match cs with
  |[.ints _ xs,.ints _ ax]=>[.ints .i64 (if val ax≤val xs then eF xs.length (val xs - val ax)else xs),.ints .i64 ax]
  |_=>[]
theorem afq (Γ:Env) (nL:Γ.mt 118=some jl) (f146:Γ.fn 146=some tg) (SR:Γ.mt 146=none) (f145:Γ.fn 145=some th) (SS:Γ.mt 145=none)
 (bG:List ag) (cs:List BC) (h:pP.pre bG cs):nE Γ BQ BR bG cs fun d cs'=>d=pP.res bG cs∧cs'=pP.out bG cs:=by
 obtain⟨xs,ax,rfl,rfl,ah,hy,hlen,rQ⟩:=h
 have SU:=OE xs.length rfl rQ ah hy
 have ex:xs.reverse.take xs.length=xs.reverse:=List.take_of_length_le (by simp)
 have UO:ax.take xs.length=ax:=List.take_of_length_le (by omega)
 have sf:ax.reverse.take ax.length=ax.reverse:=List.take_of_length_le (by simp)
 have UP:ax.reverse.take xs.length=ax.reverse:=List.take_of_length_le (by simp[rQ])
 by_cases zj:val ax≤val xs
 ·have bB:¬mC xs.reverse ax.reverse<0:=by
   rw[SU];unfold e0
   rw[if_neg (by omega)];split<;>decide
  simp (maxSteps:=2000000) only[↓ak,aj,↓reduceIte,reduceCtorEq,Nat.reduceEqDiff,Nat.reduceLeDiff,Nat.reduceSub,Nat.reduceAdd,Int.reduceToNat,Nat.reducePow,Int.reducePow,Int.reduceLE,Int.reduceLT,IntKind.bits,bF,Nat.reduceBneDiff,Nat.reduceBeqDiff,Nat.reduceLT,List.flatMap_cons,List.flatMap_nil,List.append_nil,List.nil_append,List.cons_append,List.filter_cons,List.filter_nil,List.contains_cons,List.contains_nil,bne_self_eq_false,beq_self_eq_true,List.map_cons,List.map_nil,BQ,BR,pP,f146,SR,tg,f145,SS,th,zj,List.length_reverse,List.take_length,UO,rQ,ex,sf,UP,bB]
  refine⟨⟨xs,rfl,hlen⟩,⟨ax,rfl,by omega⟩,⟨xs.reverse,ax.reverse,rfl,by simpa using hlen,by simpa using rQ⟩,?_⟩
  refine cc (fun s=>∃fu:List Int,s.aw 1000000=some ⟨false,true,.ints .i64 fu⟩∧s.aw 1000001=some ⟨false,true,.ints .i64 ax⟩∧fu=eF xs.length (val xs - val ax)) ?_ ?_
  ·simp (maxSteps:=2000000) only[↓ak,aj,↓reduceIte,reduceCtorEq,Nat.reduceEqDiff,Nat.reduceLeDiff,Nat.reduceSub,Nat.reduceAdd,Int.reduceToNat,Nat.reducePow,Int.reducePow,Int.reduceLE,Int.reduceLT,IntKind.bits,bF,Nat.reduceBneDiff,Nat.reduceBeqDiff,Nat.reduceLT,List.flatMap_cons,List.flatMap_nil,List.append_nil,List.nil_append,List.cons_append,List.filter_cons,List.filter_nil,List.contains_cons,List.contains_nil,bne_self_eq_false,beq_self_eq_true,List.map_cons,List.map_nil,true_and]
   refine eC (fun s=>∃(fu:List Int) (c:Int) (i:Nat),s.af 0= .own 1000000 0 xs.length∧s.af 1= .own 1000001 0 xs.length∧s.af 5= .box 5 0∧s.aw 5=some ⟨false,false,.cells [.d (.int .i64 c)]⟩∧s.af 14= .d (.int .i64 xs.length)∧s.af 15= .d (.int .i64 i)∧
    s.aw 1000000=some ⟨false,true,.ints .i64 fu⟩∧s.aw 1000001=some ⟨false,true,.ints .i64 ax⟩∧bQ fu∧fu.length=xs.length∧i≤xs.length∧-1≤c∧c≤0∧(∀j,i≤j→fu.getD j 0=xs.getD j 0)∧(val (fu.take i):Int)+16777216^i*c=val (xs.take i)+(-1)*val (ax.take i))
    (fun s=>match s.af 15 with| .d (.int _ n)=>xs.length - n.toNat|_=>0) ?_ ?_
   ·refine⟨xs,0,0,?_⟩
    simp (maxSteps:=2000000) only[↓ak,aj,↓reduceIte,reduceCtorEq,Nat.reduceEqDiff,Nat.reduceLeDiff,Nat.reduceSub,Nat.reduceAdd,Int.reduceToNat,Nat.reducePow,Int.reducePow,Int.reduceLE,Int.reduceLT,IntKind.bits,bF,Nat.reduceBneDiff,Nat.reduceBeqDiff,Nat.reduceLT,List.flatMap_cons,List.flatMap_nil,List.append_nil,List.nil_append,List.cons_append,List.filter_cons,List.filter_nil,List.contains_cons,List.contains_nil,bne_self_eq_false,beq_self_eq_true,List.map_cons,List.map_nil,rQ]
    (repeat' apply And.intro)<;>first|with_reducible rfl|omega|(simp only[List.length_append,List.length_cons,List.length_nil,List.length_set,List.length_replicate];omega)|(simp only[aG];omega)|(simp only[List.length_set];done)|(rw[Int.toNat_of_nonneg (by omega)];done)|exact ah|exact(fun _ _=>rfl)|exact(by simp[val])
   ·rintro s ⟨fu,c,i,h0,h1,aI,a9,dH,iN,h6,p9,aB,gO,hi,de,ao,kK,aA⟩
    by_cases ci:(i:Int)<xs.length
    ·have a1:i<xs.length:=by omega
     have a6:(i:Int)<ax.length:=by omega
     have cU:i<ax.length:=by omega
     have k1:=ah.getD i
     have UM:=hy.getD i
     have bb:=kK i (Nat.le_refl _)
     have er:=Eh (out:=fu) (i:=i) (c:=c) (t:= -1) (s:=xs.getD i 0 - ax.getD i 0+c) (by omega) ah hy (by omega) aA
     simp (maxSteps:=2000000) only[↓ak,aj,↓reduceIte,reduceCtorEq,Nat.reduceEqDiff,Nat.reduceLeDiff,Nat.reduceSub,Nat.reduceAdd,Int.reduceToNat,Nat.reducePow,Int.reducePow,Int.reduceLE,Int.reduceLT,IntKind.bits,bF,Nat.reduceBneDiff,Nat.reduceBeqDiff,Nat.reduceLT,List.flatMap_cons,List.flatMap_nil,List.append_nil,List.nil_append,List.cons_append,List.filter_cons,List.filter_nil,List.contains_cons,List.contains_nil,bne_self_eq_false,beq_self_eq_true,List.map_cons,List.map_nil,h0,h1,aI,a9,dH,iN,h6,p9,ci,a1,a6,cU,gO,bb,nL,jl,Int.toNat_natCast,List.length_set]
     repeat (refine And.intro (by first|omega|(simp only[aG];omega)|(simp only[aG]at*;omega)|(simp only[List.length_append,List.length_cons,List.length_nil,List.length_set,bL];omega)) ?_)
     refine⟨⟨_,_,rfl,rfl,by omega⟩,?_⟩
     repeat (refine And.intro (by first|omega|(simp only[aG];omega)|(simp only[aG]at*;omega)|(simp only[List.length_append,List.length_cons,List.length_nil,List.length_set,bL];omega)) ?_)
     refine⟨⟨fu.set i ((xs.getD i 0 - ax.getD i 0+c) % 16777216),(xs.getD i 0 - ax.getD i 0+c) / 16777216,i+1,?_⟩,by omega⟩
     (repeat' apply And.intro)<;>first|with_reducible rfl|omega|(simp only[List.length_append,List.length_cons,List.length_nil,List.length_set,List.length_replicate];omega)|(simp only[aG];omega)|(simp only[List.length_set];done)|(rw[Int.toNat_of_nonneg (by omega)];done)|exact aB.set _ (by omega) (by omega)|exact(fun j az=>by rw[og (by omega)];exact kK j (by omega))|exact er
    ·simp (maxSteps:=2000000) only[↓ak,aj,↓reduceIte,reduceCtorEq,Nat.reduceEqDiff,Nat.reduceLeDiff,Nat.reduceSub,Nat.reduceAdd,Int.reduceToNat,Nat.reducePow,Int.reducePow,Int.reduceLE,Int.reduceLT,IntKind.bits,bF,Nat.reduceBneDiff,Nat.reduceBeqDiff,Nat.reduceLT,List.flatMap_cons,List.flatMap_nil,List.append_nil,List.nil_append,List.cons_append,List.filter_cons,List.filter_nil,List.contains_cons,List.contains_nil,bne_self_eq_false,beq_self_eq_true,List.map_cons,List.map_nil,h0,h1,aI,a9,dH,iN,h6,p9,ci]
     have:i=xs.length:=by omega
     subst this
     rw[List.take_of_length_le (by omega),List.take_length,List.take_of_length_le (by omega)]at aA
     have hs:=ib aB
     rw[gO]at hs
     have ahI:=ib ah
     have:=Ez (T:=val xs - val ax) (c:=c) (n:=xs.length) (v:=val fu) (by rw[aA];omega) hs (by omega) (by omega)
     exact⟨fu,rfl,PH aB gO this.2⟩
  ·rintro s ⟨fu,h6,p9,HY⟩
   simp (maxSteps:=2000000) only[↓ak,aj,↓reduceIte,reduceCtorEq,Nat.reduceEqDiff,Nat.reduceLeDiff,Nat.reduceSub,Nat.reduceAdd,Int.reduceToNat,Nat.reducePow,Int.reducePow,Int.reduceLE,Int.reduceLT,IntKind.bits,bF,Nat.reduceBneDiff,Nat.reduceBeqDiff,Nat.reduceLT,List.flatMap_cons,List.flatMap_nil,List.append_nil,List.nil_append,List.cons_append,List.filter_cons,List.filter_nil,List.contains_cons,List.contains_nil,bne_self_eq_false,beq_self_eq_true,List.map_cons,List.map_nil,h6,p9,HY]
 ·have bB:mC xs.reverse ax.reverse<0:=by
   rw[SU];unfold e0
   rw[if_pos (by omega)];decide
  simp (maxSteps:=2000000) only[↓ak,aj,↓reduceIte,reduceCtorEq,Nat.reduceEqDiff,Nat.reduceLeDiff,Nat.reduceSub,Nat.reduceAdd,Int.reduceToNat,Nat.reducePow,Int.reducePow,Int.reduceLE,Int.reduceLT,IntKind.bits,bF,Nat.reduceBneDiff,Nat.reduceBeqDiff,Nat.reduceLT,List.flatMap_cons,List.flatMap_nil,List.append_nil,List.nil_append,List.cons_append,List.filter_cons,List.filter_nil,List.contains_cons,List.contains_nil,bne_self_eq_false,beq_self_eq_true,List.map_cons,List.map_nil,BQ,BR,pP,f146,SR,tg,f145,SS,th,zj,List.length_reverse,List.take_length,UO,rQ,ex,sf,UP,bB]
  exact⟨⟨xs,rfl,hlen⟩,⟨ax,rfl,by omega⟩,⟨xs.reverse,ax.reverse,rfl,by simpa using hlen,by simpa using rQ⟩⟩
end RV.Dr
