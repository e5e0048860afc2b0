/- Lemmas for a claim: an abstract machine for the translated code, proved sound, and contracts of functions. By an AI agent. -/
import Derived.Test.YtfnabehbkmlofaaGreatDoorRd
import Derived.Test.YtfnabehbkmlofaaGreatDoorChecked
import Derived.WalkKit
import Derived.ProofKit
set_option linter.all false
namespace RV.Dr
open Go RV
set_option linter.unusedSimpArgs false
set_option linter.unusedVariables false
set_option maxRecDepth 100000
set_option maxHeartbeats 4000000
def aV (x:a8):D:= .agg [.bool x.neg,aZ x.m,.int .i64 x.e]
def fj:D→a8
 | .agg [.bool a,.ints _ xs,.int _ e]=>⟨a,val xs,e⟩
 |_=>⟨false,0,0⟩
theorem ck (x:a8):fj (.agg [.bool x.neg,.ints .i64 (au x.m),.int .i64 x.e])=x:=by
 simp only[fj,bT]
def dj (x:a8):Prop:=x.win (-50000) 50000
theorem gh (n:Nat):(au n).length≤a1 n / 24+1:=by
 refine x7 (Nat.lt_of_lt_of_le (kG n) ?_)
 rw[Bg]
 exact Nat.pow_le_pow_right (by decide) (by omega)
theorem sg {x:a8} (h:dj x):a1 x.m≤100000:=by
 by_cases h0:x.m=0
 ·rw[h0,pC];omega
 ·have:=h.2 h0;omega
theorem l1 {x:a8} (h:dj x):(au x.m).length≤4200:=by
 have:=sg h
 have:=gh x.m
 omega
theorem mH {x:a8} (h:dj x): -50000≤x.e∧x.e≤50000:=by
 by_cases h0:x.m=0
 ·have:=(h.1.1 h0).2;omega
 ·have:=h.2 h0;omega
theorem Qa {n:Nat} (h:n=0):((au n).length:Int)=0:=by rw[h,hv];rfl
theorem B0 {n:Nat} (h:n≠0):(((au n).length:Int)==0)=false:=beq_false_of_ne (by have:=x2 h;omega)
theorem KS {n:Nat} (h:n=0):(((au n).length:Int)==0)=true:=by rw[Qa h];rfl
def ql:br where
 pre:=fun ds=>∃x:a8,ds=[aV x]
 res:=fun ds=>match ds with
  |[p]=> .int .i64 (ik (fj p))
  |_=> .nilp
theorem KT (Γ:Env) (ds:List D) (h:ql.pre ds):bK Γ Pr Ps ds fun d=>d=ql.res ds:=by
 obtain⟨x,rfl⟩:=h
 by_cases h0:x.m=0
 ·have aj:ik x=0:=by unfold ik;rw[if_pos h0]
  simp (maxSteps:=9^9) only[↓al,ak,simprocAttr,Pr,Ps,ql,aV,ck,KS h0,aj]
 ·cases aJ:x.neg with
  |true=>
   have aj:ik x= -1:=by unfold ik;rw[if_neg h0,aJ];rfl
   have hy:=ck x
   rw[aJ]at hy
   simp (maxSteps:=9^9) only[↓al,ak,simprocAttr,Pr,Ps,ql,aV,aJ,hy,B0 h0,aj]
  |false=>
   have aj:ik x=1:=by unfold ik;rw[if_neg h0,aJ];rfl
   have hy:=ck x
   rw[aJ]at hy
   simp (maxSteps:=9^9) only[↓al,ak,simprocAttr,Pr,Ps,ql,aV,aJ,hy,B0 h0,aj]
def lE:br where
 pre:=fun ds=>∃x:a8,ds=[aV x]
 res:=fun ds=>match ds with
  |[p]=>aV (eQ (fj p))
  |_=> .nilp
theorem KU (Γ:Env) (ds:List D) (h:lE.pre ds):bK Γ Px Py ds fun d=>d=lE.res ds:=by
 obtain⟨x,rfl⟩:=h
 have hy:=ck x
 cases aJ:x.neg with
 |true=>
  rw[aJ]at hy
  simp (maxSteps:=9^9) only[↓al,ak,simprocAttr,Px,Py,lE,aV,aJ,hy,eQ]
 |false=>
  rw[aJ]at hy
  by_cases h0:x.m=0
  ·have c:¬((au x.m).length:Int)>0:=by rw[Qa h0];omega
   simp (maxSteps:=9^9) only[↓al,ak,simprocAttr,Px,Py,lE,aV,aJ,hy,eQ,c]
   simp[h0]
  ·have c:((au x.m).length:Int)>0:=by have:=x2 h0;omega
   simp (maxSteps:=9^9) only[↓al,ak,simprocAttr,Px,Py,lE,aV,aJ,hy,eQ,c]
   simp[h0]
def fu:br where
 pre:=fun ds=>∃(b:Bool) (m:Nat) (e:Int),ds=[.bool b,aZ m,.int .i64 e]∧(au m).length≤20000∧-1000000≤e∧e≤1000000
 res:=fun ds=>match ds with
  |[.bool b,.ints _ xs,.int _ e]=>aV (mk b (val xs) e)
  |_=> .nilp
theorem JV (Γ:Env) (f144:Γ.fn 144=some jW) (TP:Γ.mt 144=none) (ds:List D) (h:fu.pre ds):bK Γ TG TH ds fun d=>d=fu.res ds:=by
 obtain⟨b,m,e,rfl,aH,KC,Dy⟩:=h
 by_cases h0:m=0
 ·subst h0
  have hm:mk b (val []) e=⟨false,0,0⟩:=by simp[mk,val]
  simp (maxSteps:=9^9) only[↓al,ak,simprocAttr,TG,TH,fu,aV,hv,List.length_nil,Int.natCast_zero,beq_self_eq_true,hm]
 ·have sO:=x3 m
  have avo:b2 m<a1 m:=by
   have h1:=(jN h0).1
   have h2:=(jN h0).2
   have aq:2^b2 m≤m:=by
    conv=>rhs;rw[←h1]
    exact Nat.le_mul_of_pos_left _ (Nat.pos_of_ne_zero fun h=>by rw[h]at h2;cases h2)
   have aK:=kG m
   exact(Nat.pow_lt_pow_iff_right (by decide)).1 (Nat.lt_of_le_of_lt aq aK)
  have mI:∀k:Nat,k≤b2 m→m / 2^k≠0:=fun k ad h=>by
   have aK:m<2^k:=(Nat.div_eq_zero_iff_lt (Nat.two_pow_pos k)).1 h
   have h1:=(jN h0).1
   have h2:=(jN h0).2
   have aq:2^b2 m≤m:=by
    conv=>rhs;rw[←h1]
    exact Nat.le_mul_of_pos_left _ (Nat.pos_of_ne_zero fun h=>by rw[h]at h2;cases h2)
   have:=(Nat.pow_lt_pow_iff_right (a:=2) (by decide)).1 (Nat.lt_of_le_of_lt aq aK)
   omega
  simp (maxSteps:=9^9) only[↓al,ak,simprocAttr,TG,TH,fu,B0 h0,aV,bT]
  refine cB (fun s=>s.af 0= .d (.bool b)∧s.af 1= .d (.ints .i64 (au m))∧s.af 2= .d (.int .i64 e)∧s.af 6= .box 6 0∧s.af 7= .d (.int .i64 (b2 m))∧∃cs,s.aA 6=some ⟨false,false,.cells cs⟩∧cs.length=3) ?_ ?_
  ·refine Rt (fun s=>∃k:Nat,s.af 0= .d (.bool b)∧s.af 1= .d (.ints .i64 (au m))∧s.af 2= .d (.int .i64 e)∧s.af 6= .box 6 0∧s.af 7= .d (.int .i64 k)∧k≤b2 m∧∃cs,s.aA 6=some ⟨false,false,.cells cs⟩∧cs.length=3) (fun s=>match s.af 7 with| .d (.int _ k)=>b2 m - k.toNat|_=>0) ?_ ?_
   ·refine⟨0,?_⟩
    simp (maxSteps:=2000000) only[↓al,ak,↓reduceIte,reduceCtorEq,Nat.reduceEqDiff,Nat.reduceLeDiff,Nat.reduceSub,Nat.reduceAdd,Int.reduceToNat,Nat.reducePow,Int.reducePow,Int.reduceLE,Int.reduceLT,IntKind.bits]
    exact⟨rfl,Nat.zero_le _,_,rfl,rfl⟩
   ·rintro s ⟨k,KV,h1,h2,aM,aS,ad,cs,aY,fR⟩
    have eB:=mI k ad
    have aQ:=x2 eB
    have bR:(0:Int)<(au (m / 2^k)).length:=by omega
    have bb:=XX (m / 2^k) 0
    rw[Nat.pow_zero,Nat.div_one]at bb
    have ad5:((m / 2^k % 16777216:Nat):Int).tmod 2=((m / 2^k % 2:Nat):Int):=by
     rw[Int.tmod_eq_emod_of_nonneg (by omega)];omega
    by_cases gB:k=b2 m
    ·have bz:=(jN h0).2
     rw[←gB]at bz
     have bS:(((m / 2^k % 2:Nat):Int)==0)=false:=by rw[bz];rfl
     simp (maxSteps:=2000000) only[↓al,ak,↓reduceIte,reduceCtorEq,Nat.reduceEqDiff,Nat.reduceLeDiff,Nat.reduceSub,Nat.reduceAdd,Int.reduceToNat,Nat.reducePow,Int.reducePow,Int.reduceLE,Int.reduceLT,IntKind.bits,KV,h1,h2,aM,aS,aY,f144,TP,jW,bT,Int.toNat_natCast,bR,bb,ad5,bS]
     exact⟨⟨au m,k,rfl,c4 m,aH,by omega⟩,by decide,by rw[gB],cs,rfl,fR⟩
    ·have bz:m / 2^k % 2=0:=by
      have h1:=(jN h0).1
      have:m / 2^k=m / 2^b2 m*2^(b2 m - k - 1)*2:=by
       refine Nat.div_eq_of_eq_mul_left (Nat.two_pow_pos k) ?_
       conv=>lhs;rw[←h1]
       rw[Nat.mul_assoc,Nat.mul_assoc,←Nat.pow_succ',←Nat.pow_add]
       congr 2;omega
      omega
     have bS:(((m / 2^k % 2:Nat):Int)==0)=true:=by rw[bz];rfl
     simp (maxSteps:=2000000) only[↓al,ak,↓reduceIte,reduceCtorEq,Nat.reduceEqDiff,Nat.reduceLeDiff,Nat.reduceSub,Nat.reduceAdd,Int.reduceToNat,Nat.reducePow,Int.reducePow,Int.reduceLE,Int.reduceLT,IntKind.bits,KV,h1,h2,aM,aS,aY,f144,TP,jW,bT,Int.toNat_natCast,bR,bb,ad5,bS]
     refine⟨⟨au m,k,rfl,c4 m,aH,by omega⟩,by decide,?_⟩
     repeat (refine And.intro (by first|omega|(simp only[aI];omega)|(simp only[aI]at*;omega)|(simp only[List.length_append,List.length_cons,List.length_nil,List.length_set,b1];omega)) ?_)
     exact⟨⟨k+1,by omega,by omega,cs,rfl,fR⟩,by omega⟩
  ·rintro s ⟨KV,h1,h2,aM,aS,cs,aY,fR⟩
   match cs,fR with
   |[iz,gT,kz],_=>
   simp (maxSteps:=9^9) only[↓al,ak,simprocAttr,KV,h1,h2,aM,aS,aY,f144,TP,jW,bT,Int.toNat_natCast]
   refine⟨⟨au m,b2 m,rfl,c4 m,aH,by omega⟩,?_⟩
   repeat (refine And.intro (by first|omega|(simp only[aI];omega)|(simp only[aI]at*;omega)|(simp only[List.length_append,List.length_cons,List.length_nil,List.length_set,b1];omega)) ?_)
   unfold mk
   rw[if_neg h0]
theorem A1 {n:Nat} (h:a1 n≤400000):(au n).length≤20000:=by
 have:=gh n
 omega
def rQ:br where
 pre:=fun ds=>∃(x:a8) (k:Int),ds=[aV x,.int .i64 k]∧dj x∧-100000≤k∧k≤100000
 res:=fun ds=>match ds with
  |[p,.int _ k]=>aV (gi (fj p) k)
  |_=> .nilp
theorem ag1 (Γ:Env) (f109:Γ.fn 109=some fu) (yF:Γ.mt 109=none) (ds:List D) (h:rQ.pre ds):bK Γ afE afF ds fun d=>d=rQ.res ds:=by
 obtain⟨x,k,rfl,aj,Kw,vI⟩:=h
 have he:=mH aj
 have aH:=l1 aj
 simp (maxSteps:=9^9) only[↓al,ak,simprocAttr,afE,afF,rQ,aV,ck,gi,f109,yF,fu,bT]
 repeat (refine And.intro (by first|omega|(simp only[aI];omega)|(simp only[aI]at*;omega)|(simp only[List.length_append,List.length_cons,List.length_nil,List.length_set,b1];omega)) ?_)
 exact⟨x.neg,x.m,x.e+k,rfl,by omega,by omega,by omega⟩
def jz:br where
 pre:=fun ds=>∃x y:a8,ds=[aV x,aV y]∧dj x∧dj y
 res:=fun ds=>match ds with
  |[p,q]=>aV (cV (fj p) (fj q))
  |_=> .nilp
theorem Pz (Γ:Env) (f109:Γ.fn 109=some fu) (yF:Γ.mt 109=none) (f116:Γ.fn 116=some ma) (atc:Γ.mt 116=none) (ds:List D) (h:jz.pre ds):bK Γ agJ agK ds fun d=>d=jz.res ds:=by
 obtain⟨x,y,rfl,aj,hy⟩:=h
 have ex:=mH aj
 have zi:=mH hy
 have c7:=l1 aj
 have gW:=l1 hy
 have ow:=Cs x.m y.m
 have aA:=sg aj
 have Wu:=sg hy
 have vM:=A1 (n:=x.m*y.m) (by omega)
 simp (maxSteps:=9^9) only[↓al,ak,simprocAttr,agJ,agK,jz,aV,ck,cV,f109,yF,fu,f116,atc,ma,bT]
 refine⟨⟨_,_,rfl,c4 _,c4 _,by omega,by omega⟩,?_⟩
 repeat (refine And.intro (by first|omega|(simp only[aI];omega)|(simp only[aI]at*;omega)|(simp only[List.length_append,List.length_cons,List.length_nil,List.length_set,b1];omega)) ?_)
 exact⟨_,_,_,rfl,vM,by omega,by omega⟩
def iN:br where
 pre:=fun ds=>∃n:Int,ds=[.int .i64 n]∧-9223372036854775807≤n∧n≤9223372036854775807
 res:=fun ds=>match ds with
  |[.int _ n]=>aV (mk (decide (n<0)) n.natAbs 0)
  |_=> .nilp
theorem PA (Γ:Env) (f109:Γ.fn 109=some fu) (yF:Γ.mt 109=none) (f110:Γ.fn 110=some lk) (ad6:Γ.mt 110=none) (ds:List D) (h:iN.pre ds):bK Γ U6 U7 ds fun d=>d=iN.res ds:=by
 obtain⟨n,rfl,h1,h2⟩:=h
 have aH:=x7 (n:=n.natAbs) (k:=3) (by omega)
 by_cases c:n<0
 ·have aN:(0 - n).toNat=n.natAbs:=by omega
  simp (maxSteps:=9^9) only[↓al,ak,simprocAttr,U6,U7,iN,aV,f109,yF,fu,f110,ad6,lk,bT,c,aN]
  refine⟨by simp only[aI];omega,?_⟩
  exact⟨⟨_,rfl,by simp only[aI];omega⟩,⟨_,_,_,rfl,by omega,by omega,by omega⟩⟩
 ·have aN:n.toNat=n.natAbs:=by omega
  simp (maxSteps:=9^9) only[↓al,ak,simprocAttr,U6,U7,iN,aV,f109,yF,fu,f110,ad6,lk,bT,c,aN]
  exact⟨⟨_,rfl,by simp only[aI];omega⟩,⟨_,_,_,rfl,by omega,by omega,by omega⟩⟩
end RV.Dr
namespace RV
open Go
set_option linter.unusedVariables false
theorem wrap_small {n:Nat} (h:n<9223372036854775808):IntKind.i64.wrap (n:Int)=n:=by
 have h1:(n:Int) % 2^64=n:=by omega
 have h2:¬((n:Int)≥2^(64 - 1)):=by omega
 unfold IntKind.wrap
 simp only[show IntKind.i64.bits=64 from rfl,show IntKind.i64.signed=true from rfl,h1,h2,decide_false,Bool.and_false,Bool.false_eq_true,if_false]
theorem Ev (k:Nat) (ad:k≤62) (x:Int):iH .i64 x ((2^k - 1:Nat):Int)=x % (2^k:Nat):=by
 unfold iH
 have aQ:2^k≤2^62:=Nat.pow_le_pow_right (by decide) ad
 rw[BitVec.toNat_and]
 have h1:(BitVec.ofInt IntKind.i64.bits ((2^k - 1:Nat):Int)).toNat=2^k - 1:=by
  rw[BitVec.ofInt_natCast,BitVec.toNat_ofNat,Nat.mod_eq_of_lt]
  show _<2^64
  omega
 rw[h1,Nat.and_two_pow_sub_one_eq_mod]
 have h2:=Nat.mod_lt (BitVec.ofInt IntKind.i64.bits x).toNat (Nat.two_pow_pos k)
 rw[wrap_small (by omega),BitVec.toNat_ofInt]
 show (((x % ((2^64:Nat):Int)).toNat % 2^k:Nat):Int)=_
 rw[Int.natCast_emod,Int.toNat_of_nonneg (by omega)]
 refine Int.emod_emod_of_dvd x ?_
 exact Int.natCast_dvd_natCast.2 (Nat.pow_dvd_pow 2 (by omega))
theorem Rd (x:Int):iH .i64 x 16777215=x % 16777216:=Ev 24 (by decide) x
theorem Rz (x:Int):iH .i64 x 1=x % 2:=Ev 1 (by decide) x
theorem alg (x:Int):iH .i64 x 3=x % 4:=Ev 2 (by decide) x
theorem Z6 {a b k c:Nat} (a6:a<2^k) (aw:b=2^k*c) (h:a+b<9223372036854775808):vF .i64 (a:Int) (b:Int)=((a+b:Nat):Int):=by
 unfold vF
 rw[BitVec.toNat_or,BitVec.ofInt_natCast,BitVec.ofInt_natCast,BitVec.toNat_ofNat,BitVec.toNat_ofNat,Nat.mod_eq_of_lt (by show _<2^64;omega),Nat.mod_eq_of_lt (by show _<2^64;omega)]
 have:=Nat.two_pow_add_eq_or_of_lt a6 c
 rw[←aw]at this
 rw[Nat.or_comm,←this,Nat.add_comm b a,wrap_small h]
theorem aaF (x:Int):x.fdiv 16777216=x / 16777216:=Int.fdiv_eq_ediv_of_nonneg x (by decide)
end RV
namespace RV.Dr
open Go RV
set_option linter.unusedSimpArgs false
set_option linter.unusedVariables false
set_option maxRecDepth 100000
set_option maxHeartbeats 4000000
def jt:gu where
 pre:=fun a4 cs=>∃s c:Int,a4=[.box bF 0,.d (.int .i64 s)]∧cs=[.cells [.d (.int .i64 c)]]∧-2305843009213693952≤s∧s≤2305843009213693952∧-2305843009213693952≤c∧c≤2305843009213693952
 res:=fun a4 cs=>match a4,cs with
  |[_,.d (.int _ s)],[.cells [.d (.int _ c)]]=> .int .i64 ((s+c) % 16777216)
  |_,_=> .nilp
 out:=fun a4 cs=>match a4,cs with
  |[_,.d (.int _ s)],[.cells [.d (.int _ c)]]=>[.cells [.d (.int .i64 ((s+c) / 16777216))]]
  |_,_=>[]
theorem Fp (Γ:Env) (a4:List ag) (cs:List BC) (h:jt.pre a4 cs):l7 Γ adM adN a4 cs fun d cs'=>d=jt.res a4 cs∧cs'=jt.out a4 cs:=by
 obtain⟨s,c,rfl,rfl,h1,h2,aq,aK⟩:=h
 simp (maxSteps:=9^9) only[↓al,ak,simprocAttr,adM,adN,jt,Rd,aaF]
 simp only[aI];omega
def tP:gu where
 pre:=fun a4 cs=>∃x y c:Int,a4=[.d (.int .i64 x),.d (.int .i64 y),.box bF 0]∧cs=[.cells [.dk 162 [.box (bF+1) 0] []],.cells [.d (.int .i64 c)]]∧0≤x∧x<16777216∧0≤y∧y<16777216∧0≤c∧c≤16777216
 res:=fun a4 cs=>match a4,cs with
  |[.d (.int _ x),.d (.int _ y),_],[_,.cells [.d (.int _ c)]]=> .int .i64 ((x+y+c) % 16777216)
  |_,_=> .nilp
 out:=fun a4 cs=>match a4,cs with
  |[.d (.int _ x),.d (.int _ y),_],[p,.cells [.d (.int _ c)]]=>[p,.cells [.d (.int .i64 ((x+y+c) / 16777216))]]
  |_,_=>[]
theorem Fq (Γ:Env) (vn:Γ.mt 162=some jt) (a4:List ag) (cs:List BC) (h:tP.pre a4 cs):l7 Γ acy acz a4 cs fun d cs'=>d=tP.res a4 cs∧cs'=tP.out a4 cs:=by
 obtain⟨x,y,c,rfl,rfl,h1,h2,aq,aK,aG,aM⟩:=h
 simp (maxSteps:=9^9) only[↓al,ak,simprocAttr,dy,bF,acy,acz,tP,vn,jt]
 repeat (refine And.intro (by first|omega|(simp only[aI];omega)|(simp only[aI]at*;omega)|(simp only[List.length_append,List.length_cons,List.length_nil,List.length_set,b1];omega)) ?_)
 exact⟨_,_,rfl,rfl,by omega⟩
def tQ:gu where
 pre:=fun a4 cs=>∃x y c:Int,a4=[.d (.int .i64 x),.d (.int .i64 y),.box bF 0]∧cs=[.cells [.d (.int .i64 c)]]∧0≤x∧x<16777216∧0≤y∧y<16777216∧-16777216≤c∧c≤0
 res:=fun a4 cs=>match a4,cs with
  |[.d (.int _ x),.d (.int _ y),_],[.cells [.d (.int _ c)]]=> .int .i64 ((x - y+c) % 16777216)
  |_,_=> .nilp
 out:=fun a4 cs=>match a4,cs with
  |[.d (.int _ x),.d (.int _ y),_],[.cells [.d (.int _ c)]]=>[.cells [.d (.int .i64 ((x - y+c) / 16777216))]]
  |_,_=>[]
theorem Fs (Γ:Env) (vn:Γ.mt 162=some jt) (a4:List ag) (cs:List BC) (h:tQ.pre a4 cs):l7 Γ acA acB a4 cs fun d cs'=>d=tQ.res a4 cs∧cs'=tQ.out a4 cs:=by
 obtain⟨x,y,c,rfl,rfl,h1,h2,aq,aK,aG,aM⟩:=h
 simp (maxSteps:=9^9) only[↓al,ak,simprocAttr,dy,bF,acA,acB,tQ,vn,jt]
 repeat (refine And.intro (by first|omega|(simp only[aI];omega)|(simp only[aI]at*;omega)|(simp only[List.length_append,List.length_cons,List.length_nil,List.length_set,b1];omega)) ?_)
 exact⟨_,_,rfl,rfl,by omega⟩
def ki:br where
 pre:=fun ds=>∃xs:List Int,ds=[.ints .i64 xs]∧ch xs∧xs.length≤100000
 res:=fun ds=>match ds with
  |[.ints _ xs]=>aZ (val xs)
  |_=> .nilp
theorem Ft (Γ:Env) (ds:List D) (h:ki.pre ds):bK Γ abY abZ ds fun d=>d=ki.res ds:=by
 obtain⟨xs,rfl,aj,hlen⟩:=h
 simp (maxSteps:=9^9) only[↓al,ak,simprocAttr,abY,abZ,ki]
 refine cB (fun s=>s.af 0= .d (aZ (val xs))) ?_ ?_
 ·refine Rt (fun s=>∃n:Nat,n≤xs.length∧s.af 0= .d (.ints .i64 (xs.take n))∧val (xs.take n)=val xs) (fun s=>match s.af 0 with| .d (.ints _ n)=>n.length|_=>0) ?_ ?_
  ·refine⟨xs.length,Nat.le_refl _,?_⟩
   simp (maxSteps:=9^9) only[↓al,ak,simprocAttr,List.take_length]
  ·rintro s ⟨n,aJ,h0,aB⟩
   have Vq:(xs.take n).length=n:=by rw[List.length_take,Nat.min_eq_left aJ]
   have KV:s.af 0= .d (.ints .i64 (xs.take n)):=h0
   by_cases dr:(n:Int)>0
   ·have aN:((n:Int) - 1).toNat=n - 1:=by omega
    have aX:n - 1<n:=by omega
    have cc:n - 1<xs.length:=by omega
    have cN:(xs.take n).getD (n - 1) 0=xs.getD (n - 1) 0:=by
     rw[List.getD_eq_getElem?_getD,List.getElem?_take_of_lt (by omega),←List.getD_eq_getElem?_getD]
    by_cases bR:xs.getD (n - 1) 0=0
    ·simp (maxSteps:=9^9) only[↓al,ak,simprocAttr,h0,Vq,dr,aN,aX,cN,bR,beq_self_eq_true]
     repeat (refine And.intro (by first|omega|(simp only[aI];omega)|(simp only[aI]at*;omega)|(simp only[List.length_append,List.length_cons,List.length_nil,List.length_set,b1];omega)) ?_)
     refine⟨⟨n - 1,by omega,?_,?_⟩,?_⟩
     ·rw[List.take_take,Nat.min_eq_left (by omega)]
     ·rw[←aB,←W5 cc bR,show n - 1+1=n by omega]
     ·rw[List.take_take,Nat.min_eq_left (by omega),List.length_take];omega
    ·have bS:(xs.getD (n - 1) 0==0)=false:=beq_false_of_ne bR
     simp (maxSteps:=9^9) only[↓al,ak,simprocAttr,h0,Vq,dr,aN,aX,cN,bS]
     repeat (refine And.intro (by first|omega|(simp only[aI];omega)|(simp only[aI]at*;omega)|(simp only[List.length_append,List.length_cons,List.length_nil,List.length_set,b1];omega)) ?_)
     rw[Mt aj aB (.inr ⟨aJ,bR⟩)]
   ·simp (maxSteps:=9^9) only[↓al,ak,simprocAttr,h0,Vq,dr]
    rw[Mt aj aB (.inl (by omega))]
 ·rintro s h0
  simp (maxSteps:=9^9) only[↓al,ak,simprocAttr,h0]
def sv:br where
 pre:=fun ds=>∃(xs:List Int) (i:Nat),ds=[.ints .i64 xs,.int .i64 i]
 res:=fun ds=>match ds with
  |[.ints _ xs,.int _ i]=> .int .i64 (xs.getD i.toNat 0)
  |_=> .nilp
theorem Fu (Γ:Env) (ds:List D) (h:sv.pre ds):bK Γ TC TD ds fun d=>d=sv.res ds:=by
 obtain⟨xs,i,rfl⟩:=h
 by_cases c:(i:Int)<xs.length
 ·simp (maxSteps:=9^9) only[↓al,ak,simprocAttr,TC,TD,sv,c]
  omega
 ·simp (maxSteps:=9^9) only[↓al,ak,simprocAttr,TC,TD,sv,c]
  rw[List.getD_eq_getElem?_getD,List.getElem?_eq_none (by omega)];rfl
def oZ:gu where
 pre:=fun a4 cs=>∃(xs aC:List Int) (n:Nat),ch xs∧ch aC∧xs.length≤n∧aC.length≤n∧n≤50000∧
  ((a4=[.d (.ints .i64 xs),.d (.ints .i64 aC),.d (.int .i64 n),.dk 168 [] [.box bF 0]]∧cs=[.cells [.dk 162 [.box (bF+1) 0] []],.cells [.d (.int .i64 0)]]∧val xs+val aC<16777216^n)∨
   (a4=[.d (.ints .i64 xs),.d (.ints .i64 aC),.d (.int .i64 n),.dk 172 [] [.box bF 0]]∧cs=[.cells [.d (.int .i64 0)]]∧val aC≤val xs))
 res:=fun a4 cs=>match a4 with
  |[.d (.ints _ xs),.d (.ints _ aC),_,.dk f _ _]=>aZ (if f=168 then val xs+val aC else val xs - val aC)
  |_=> .nilp
 out:=fun a4 cs=>cs
theorem Fv (Γ:Env) (f192:Γ.fn 192=some sv) (ad7:Γ.mt 192=none) (atd:Γ.mt 168=some tP) (ate:Γ.mt 172=some tQ)
 (f163:Γ.fn 163=some ki) (yG:Γ.mt 163=none)
 (a4:List ag) (cs:List BC) (h:oZ.pre a4 cs):l7 Γ Tr Ts a4 cs fun d cs'=>d=oZ.res a4 cs∧cs'=oZ.out a4 cs:=by
 obtain⟨xs,aC,n,aj,hy,c7,gW,aJ,⟨rfl,rfl,aw⟩|⟨rfl,rfl,aw⟩⟩:=h
 ·simp (maxSteps:=9^9) only[↓al,ak,simprocAttr,dy,bF,Tr,Ts,oZ]
  repeat (refine And.intro (by first|omega|(simp only[aI];omega)|(simp only[aI]at*;omega)|(simp only[List.length_append,List.length_cons,List.length_nil,List.length_set,b1];omega)) ?_)
  refine cB (fun s=>s.af 10= .own 13 0 n∧∃out:List Int,s.aA 13=some ⟨false,false,.ints .i64 out⟩∧s.aA 1000000=some ⟨false,true,.cells [.dk 162 [.box 1000001 0] []]⟩∧s.aA 1000001=some ⟨false,true,.cells [.d (.int .i64 0)]⟩∧out.length=n∧ch out∧val out=val xs+val aC) ?_ ?_
  ·simp (maxSteps:=9^9) only[↓al,ak,simprocAttr,dy,bF]
   refine eV (fun s=>∃(out:List Int) (c:Int) (i:Nat),s.af 0= .d (.ints .i64 xs)∧s.af 1= .d (.ints .i64 aC)∧s.af 3= .dk 168 [] [.box bF 0]∧s.af 9= .d (.fn 192 [] [])∧s.af 10= .own 13 0 n∧s.af 15= .d (.int .i64 n)∧s.af 16= .d (.int .i64 i)∧
    s.aA 13=some ⟨false,false,.ints .i64 out⟩∧s.aA 1000000=some ⟨false,true,.cells [.dk 162 [.box 1000001 0] []]⟩∧s.aA 1000001=some ⟨false,true,.cells [.d (.int .i64 c)]⟩∧out.length=n∧ch out∧i≤n∧0≤c∧c≤1∧(val (out.take i):Int)+16777216^i*c=val (xs.take i)+1*val (aC.take i))
    (fun s=>match s.af 16 with| .d (.int _ i)=>n - i.toNat|_=>0) ?_ ?_
   ·refine⟨List.replicate n 0,0,0,?_⟩
    simp (maxSteps:=9^9) only[↓al,ak,simprocAttr,dy,bF,Int.toNat_natCast,List.length_replicate]
    repeat (refine And.intro (by first|omega|(simp only[aI];omega)|(simp only[aI]at*;omega)|(simp only[List.length_append,List.length_cons,List.length_nil,List.length_set,b1];omega)) ?_)
    refine⟨fun x aj=>by rw[List.eq_of_mem_replicate aj];decide,?_⟩
    repeat (refine And.intro (by first|omega|(simp only[aI];omega)|(simp only[aI]at*;omega)|(simp only[List.length_append,List.length_cons,List.length_nil,List.length_set,b1];omega)) ?_)
    simp[val]
   ·rintro s ⟨out,c,i,h0,h1,aq,bH,bI,jf,uz,jA,kA,Aa,hlen,aH,hi,dO,ay,aB⟩
    by_cases ci:(i:Int)<n
    ·have aN:i<n:=by omega
     have rP:=aj.getD i
     have ag2:=hy.getD i
     have b8:(0:Int)≤i:=by omega
     simp (maxSteps:=9^9) only[↓al,ak,simprocAttr,dy,bF,h0,h1,aq,bH,bI,jf,uz,jA,kA,Aa,ci,aN,b8,hlen,f192,ad7,sv,atd,tP,Int.toNat_natCast]
     have e5:=QT (out:=out) (i:=i) (c:=c) (t:=1) (s:=xs.getD i 0+aC.getD i 0+c) (by omega) aj hy (by omega) aB
     refine⟨⟨xs,i,rfl⟩,⟨aC,i,rfl⟩,⟨xs.getD i 0,aC.getD i 0,c,rfl,rfl,by omega⟩,?_⟩
     repeat (refine And.intro (by first|omega|(simp only[aI];omega)|(simp only[aI]at*;omega)|(simp only[List.length_append,List.length_cons,List.length_nil,List.length_set,b1];omega)) ?_)
     refine⟨⟨out.set i ((xs.getD i 0+aC.getD i 0+c) % 16777216),(xs.getD i 0+aC.getD i 0+c) / 16777216,i+1,?_⟩,by omega⟩
     (repeat' apply And.intro)<;>first|with_reducible rfl|omega|(simp only[List.length_append,List.length_cons,List.length_nil,List.length_set,List.length_replicate];omega)|(simp only[aI];omega)|(simp only[List.length_set];done)|(rw[Int.toNat_of_nonneg (by omega)];done)|exact e5|exact aH.set _ (by omega) (by omega)|exact(by congr 3)
    ·simp (maxSteps:=9^9) only[↓al,ak,simprocAttr,dy,bF,h0,h1,aq,bH,bI,jf,uz,jA,kA,Aa,ci]
     have:i=n:=by omega
     subst this
     rw[List.take_of_length_le (by omega),List.take_of_length_le c7,List.take_of_length_le gW]at aB
     have jx:=k6 aH
     rw[hlen]at jx
     have:=Rc (T:=val xs+val aC) (by rw[aB,Int.natCast_add,Int.one_mul]) jx aw (by omega)
     refine⟨out,?_⟩
     (repeat' apply And.intro)<;>first|with_reducible rfl|omega|(simp only[List.length_append,List.length_cons,List.length_nil,List.length_set,List.length_replicate];omega)|(simp only[aI];omega)|(simp only[List.length_set];done)|(rw[Int.toNat_of_nonneg (by omega)];done)|exact aH|exact this.2|exact(by rw[this.1])
  ·rintro s ⟨bI,out,jA,kA,Aa,hlen,aH,aB⟩
   subst hlen
   simp (maxSteps:=9^9) only[↓al,ak,simprocAttr,dy,bF,bI,jA,kA,Aa,f163,yG,ki,List.take_length]
   repeat (refine And.intro (by first|omega|(simp only[aI];omega)|(simp only[aI]at*;omega)|(simp only[List.length_append,List.length_cons,List.length_nil,List.length_set,b1];omega)) ?_)
   exact⟨⟨out,rfl,aH,by omega⟩,by rw[aB]⟩
 ·simp (maxSteps:=9^9) only[↓al,ak,simprocAttr,dy,bF,Tr,Ts,oZ]
  repeat (refine And.intro (by first|omega|(simp only[aI];omega)|(simp only[aI]at*;omega)|(simp only[List.length_append,List.length_cons,List.length_nil,List.length_set,b1];omega)) ?_)
  refine cB (fun s=>s.af 10= .own 13 0 n∧∃out:List Int,s.aA 13=some ⟨false,false,.ints .i64 out⟩∧s.aA 1000000=some ⟨false,true,.cells [.d (.int .i64 0)]⟩∧out.length=n∧ch out∧val out=val xs - val aC) ?_ ?_
  ·simp (maxSteps:=9^9) only[↓al,ak,simprocAttr,dy,bF]
   refine eV (fun s=>∃(out:List Int) (c:Int) (i:Nat),s.af 0= .d (.ints .i64 xs)∧s.af 1= .d (.ints .i64 aC)∧s.af 3= .dk 172 [] [.box bF 0]∧s.af 9= .d (.fn 192 [] [])∧s.af 10= .own 13 0 n∧s.af 15= .d (.int .i64 n)∧s.af 16= .d (.int .i64 i)∧
    s.aA 13=some ⟨false,false,.ints .i64 out⟩∧s.aA 1000000=some ⟨false,true,.cells [.d (.int .i64 c)]⟩∧out.length=n∧ch out∧i≤n∧-1≤c∧c≤0∧(val (out.take i):Int)+16777216^i*c=val (xs.take i)+(-1)*val (aC.take i))
    (fun s=>match s.af 16 with| .d (.int _ i)=>n - i.toNat|_=>0) ?_ ?_
   ·refine⟨List.replicate n 0,0,0,?_⟩
    simp (maxSteps:=9^9) only[↓al,ak,simprocAttr,dy,bF,Int.toNat_natCast,List.length_replicate]
    repeat (refine And.intro (by first|omega|(simp only[aI];omega)|(simp only[aI]at*;omega)|(simp only[List.length_append,List.length_cons,List.length_nil,List.length_set,b1];omega)) ?_)
    refine⟨fun x aj=>by rw[List.eq_of_mem_replicate aj];decide,?_⟩
    repeat (refine And.intro (by first|omega|(simp only[aI];omega)|(simp only[aI]at*;omega)|(simp only[List.length_append,List.length_cons,List.length_nil,List.length_set,b1];omega)) ?_)
    simp[val]
   ·rintro s ⟨out,c,i,h0,h1,aq,bH,bI,jf,uz,jA,kA,hlen,aH,hi,dO,ay,aB⟩
    by_cases ci:(i:Int)<n
    ·have aN:i<n:=by omega
     have rP:=aj.getD i
     have ag2:=hy.getD i
     have b8:(0:Int)≤i:=by omega
     simp (maxSteps:=9^9) only[↓al,ak,simprocAttr,dy,bF,h0,h1,aq,bH,bI,jf,uz,jA,kA,ci,aN,b8,hlen,f192,ad7,sv,ate,tQ,Int.toNat_natCast]
     have e5:=QT (out:=out) (i:=i) (c:=c) (t:= -1) (s:=xs.getD i 0 - aC.getD i 0+c) (by omega) aj hy (by omega) aB
     refine⟨⟨xs,i,rfl⟩,⟨aC,i,rfl⟩,⟨xs.getD i 0,aC.getD i 0,c,rfl,rfl,by omega⟩,?_⟩
     repeat (refine And.intro (by first|omega|(simp only[aI];omega)|(simp only[aI]at*;omega)|(simp only[List.length_append,List.length_cons,List.length_nil,List.length_set,b1];omega)) ?_)
     refine⟨⟨out.set i ((xs.getD i 0 - aC.getD i 0+c) % 16777216),(xs.getD i 0 - aC.getD i 0+c) / 16777216,i+1,?_⟩,by omega⟩
     (repeat' apply And.intro)<;>first|with_reducible rfl|omega|(simp only[List.length_append,List.length_cons,List.length_nil,List.length_set,List.length_replicate];omega)|(simp only[aI];omega)|(simp only[List.length_set];done)|(rw[Int.toNat_of_nonneg (by omega)];done)|exact e5|exact aH.set _ (by omega) (by omega)|exact(by congr 3)
    ·simp (maxSteps:=9^9) only[↓al,ak,simprocAttr,dy,bF,h0,h1,aq,bH,bI,jf,uz,jA,kA,ci]
     have:i=n:=by omega
     subst this
     rw[List.take_of_length_le (by omega),List.take_of_length_le c7,List.take_of_length_le gW]at aB
     have jx:=k6 aH
     rw[hlen]at jx
     have avp:=k6 aj
     have azy:16777216^xs.length≤16777216^i:=Nat.pow_le_pow_right (by decide) c7
     have:=Rc (T:=val xs - val aC) (c:=c) (n:=i) (v:=val out) (by rw[aB];omega) jx (by omega) (by omega)
     refine⟨out,?_⟩
     (repeat' apply And.intro)<;>first|with_reducible rfl|omega|(simp only[List.length_append,List.length_cons,List.length_nil,List.length_set,List.length_replicate];omega)|(simp only[aI];omega)|(simp only[List.length_set];done)|(rw[Int.toNat_of_nonneg (by omega)];done)|exact aH|exact this.2|exact(by rw[this.1])
  ·rintro s ⟨bI,out,jA,kA,hlen,aH,aB⟩
   subst hlen
   simp (maxSteps:=9^9) only[↓al,ak,simprocAttr,dy,bF,bI,jA,kA,f163,yG,ki,List.take_length]
   repeat (refine And.intro (by first|omega|(simp only[aI];omega)|(simp only[aI]at*;omega)|(simp only[List.length_append,List.length_cons,List.length_nil,List.length_set,b1];omega)) ?_)
   exact⟨⟨out,rfl,aH,by omega⟩,by rw[aB]⟩
def ju:br where
 pre:=fun ds=>∃xs aC:List Int,ds=[.ints .i64 xs,.ints .i64 aC]∧ch xs∧ch aC∧xs.length≤20000∧aC.length≤20000
 res:=fun ds=>match ds with
  |[.ints _ xs,.ints _ aC]=>aZ (val xs+val aC)
  |_=> .nilp
theorem Fw (Γ:Env) (Oz:Γ.mt 167=some oZ) (ds:List D) (h:ju.pre ds):bK Γ acY acZ ds fun d=>d=ju.res ds:=by
 obtain⟨xs,aC,rfl,aj,hy,c7,gW⟩:=h
 simp (maxSteps:=9^9) only[↓al,ak,simprocAttr,dy,bF,acY,acZ,ju,Oz,oZ]
 have cg:(if (aC.length:Int)>xs.length then (aC.length:Int)else xs.length)+1=((max xs.length aC.length+1:Nat):Int):=by split<;>omega
 rw[cg]
 repeat (refine And.intro (by first|omega|(simp only[aI];omega)|(simp only[aI]at*;omega)|(simp only[List.length_append,List.length_cons,List.length_nil,List.length_set,b1];omega)) ?_)
 refine⟨xs,aC,max xs.length aC.length+1,aj,hy,by omega,by omega,by omega,.inl ⟨rfl,?_⟩⟩
 have h1:=k6 aj
 have h2:=k6 hy
 have aq:16777216^xs.length≤16777216^max xs.length aC.length:=Nat.pow_le_pow_right (by decide) (by omega)
 have aK:16777216^aC.length≤16777216^max xs.length aC.length:=Nat.pow_le_pow_right (by decide) (by omega)
 rw[Nat.pow_succ]
 omega
def sw:br where
 pre:=fun ds=>∃x:Int,ds=[.int .i64 x]
 res:=fun ds=> .bool false
theorem Fx (Γ:Env) (ds:List D) (h:sw.pre ds):bK Γ ab6 ab7 ds fun d=>d=sw.res ds:=by
 obtain⟨x,rfl⟩:=h
 simp (maxSteps:=9^9) only[↓al,ak,simprocAttr,ab6,ab7,sw,bne_self_eq_false]
def e8 (x y:Int):Int:=if x<y then -1 else if x>y then 1 else 0
def mb:br where
 pre:=fun ds=>∃x y:Int,ds=[.int .i64 x,.int .i64 y]
 res:=fun ds=>match ds with
  |[.int _ x,.int _ y]=> .int .i64 (e8 x y)
  |_=> .nilp
theorem Fy (Γ:Env) (f191:Γ.fn 191=some sw) (TQ:Γ.mt 191=none) (ds:List D) (h:mb.pre ds):bK Γ Ow Ox ds fun d=>d=mb.res ds:=by
 obtain⟨x,y,rfl⟩:=h
 by_cases bR:x<y
 ·simp (maxSteps:=9^9) only[↓al,ak,simprocAttr,Ow,Ox,mb,f191,TQ,sw,bR,e8]
  exact⟨⟨x,rfl⟩,⟨y,rfl⟩⟩
 ·by_cases bS:x>y
  ·simp (maxSteps:=9^9) only[↓al,ak,simprocAttr,Ow,Ox,mb,f191,TQ,sw,bR,bS,e8]
   exact⟨⟨x,rfl⟩,⟨y,rfl⟩⟩
  ·simp (maxSteps:=9^9) only[↓al,ak,simprocAttr,Ow,Ox,mb,f191,TQ,sw,bR,bS,e8]
   exact⟨⟨x,rfl⟩,⟨y,rfl⟩⟩
def iJ:br where
 pre:=fun ds=>∃a b:Nat,ds=[aZ a,aZ b]∧(au a).length≤100000∧(au b).length≤100000
 res:=fun ds=>match ds with
  |[.ints _ xs,.ints _ aC]=> .int .i64 (e8 (val xs) (val aC))
  |_=> .nilp
theorem IK {a b:Nat} (h:a<b):e8 a b= -1:=by unfold e8;rw[if_pos (by omega)]
theorem RX {a b:Nat} (h:b<a):e8 a b=1:=by unfold e8;rw[if_neg (by omega),if_pos (by omega)]
theorem IL (a:Int):e8 a a=0:=by unfold e8;rw[if_neg (by omega),if_neg (by omega)]
theorem Fz (Γ:Env) (f166:Γ.fn 166=some mb) (JW:Γ.mt 166=none) (ds:List D) (h:iJ.pre ds):bK Γ Tg Ti ds fun d=>d=iJ.res ds:=by
 obtain⟨a,b,rfl,b4,dJ⟩:=h
 by_cases bR:(au a).length=(au b).length
 ·have vO:(((au a).length:Int) !=(au b).length)=false:=by rw[bR];exact bne_self_eq_false _
  simp (maxSteps:=9^9) only[↓al,ak,simprocAttr,Tg,Ti,iJ,vO,bT]
  refine cB (fun s=>a=b) ?_ ?_
  ·simp (maxSteps:=9^9) only[↓al,ak,simprocAttr]
   repeat (refine And.intro (by first|omega|(simp only[aI];omega)|(simp only[aI]at*;omega)|(simp only[List.length_append,List.length_cons,List.length_nil,List.length_set,b1];omega)) ?_)
   refine eV (fun s=>∃i:Int,s.af 0= .d (.ints .i64 (au a))∧s.af 1= .d (.ints .i64 (au b))∧s.af 5= .d (.int .i64 i)∧-1≤i∧i<(au a).length∧(au a).drop (i+1).toNat=(au b).drop (i+1).toNat)
    (fun s=>match s.af 5 with| .d (.int _ i)=>(i+1).toNat|_=>0) ?_ ?_
   ·refine⟨((au a).length:Int) - 1,?_⟩
    simp (maxSteps:=9^9) only[↓al,ak,simprocAttr]
    repeat (refine And.intro (by first|omega|(simp only[aI];omega)|(simp only[aI]at*;omega)|(simp only[List.length_append,List.length_cons,List.length_nil,List.length_set,b1];omega)) ?_)
    rw[List.drop_of_length_le (by omega),List.drop_of_length_le (by omega)]
   ·rintro s ⟨i,h0,h1,aG,y2,sS,aD⟩
    by_cases ci:i≥0
    ·have aN:i.toNat<(au a).length:=by omega
     have aX:i<(au a).length:=by omega
     have cc:i<(au b).length:=by omega
     by_cases ce:(au a).getD i.toNat 0=(au b).getD i.toNat 0
     ·have Vr:((au a).getD i.toNat 0 !=(au b).getD i.toNat 0)=false:=by rw[ce];exact bne_self_eq_false _
      simp (maxSteps:=9^9) only[↓al,ak,simprocAttr,h0,h1,aG,ci,Vr,aX,cc]
      have aym:(au a).drop i.toNat=(au b).drop i.toNat:=by
       rw[List.getD_eq_getElem?_getD,List.getD_eq_getElem?_getD,List.getElem?_eq_getElem aN,List.getElem?_eq_getElem (show i.toNat<(au b).length by omega)]at ce
       simp only[Option.getD_some]at ce
       rw[List.drop_eq_getElem_cons aN,List.drop_eq_getElem_cons (show i.toNat<(au b).length by omega),ce]
       rw[show (i+1).toNat=i.toNat+1 by omega]at aD
       rw[aD]
      repeat (refine And.intro (by first|omega|(simp only[aI];omega)|(simp only[aI]at*;omega)|(simp only[List.length_append,List.length_cons,List.length_nil,List.length_set,b1];omega)) ?_)
      refine⟨⟨i - 1,rfl,by omega,by omega,?_⟩,by omega⟩
      rw[show (i - 1+1).toNat=i.toNat by omega]
      exact aym
     ·have Vr:((au a).getD i.toNat 0 !=(au b).getD i.toNat 0)=true:=bne_iff_ne.2 ce
      rw[show (i+1).toNat=i.toNat+1 by omega]at aD
      simp (maxSteps:=9^9) only[↓al,ak,simprocAttr,h0,h1,aG,ci,Vr,aX,cc,f166,JW,mb]
      repeat (refine And.intro (by first|omega|(simp only[aI];omega)|(simp only[aI]at*;omega)|(simp only[List.length_append,List.length_cons,List.length_nil,List.length_set,b1];omega)) ?_)
      refine⟨⟨_,_,rfl⟩,?_⟩
      rcases Int.lt_or_gt_of_ne ce with aH|aH
      ·have:=MI (c4 a) (c4 b) aN (by omega) aD aH
       rw[bT,bT]at this
       rw[IK this]
       unfold e8;rw[if_pos aH]
      ·have:=MI (c4 b) (c4 a) (by omega) aN aD.symm aH
       rw[bT,bT]at this
       rw[RX this]
       unfold e8;rw[if_neg (by omega),if_pos aH]
    ·simp (maxSteps:=9^9) only[↓al,ak,simprocAttr,h0,h1,aG,ci]
     rw[show (i+1).toNat=0 by omega,List.drop_zero,List.drop_zero]at aD
     exact YC aD
  ·rintro s rfl
   simp (maxSteps:=9^9) only[↓al,ak,simprocAttr,IL]
 ·have vO:(((au a).length:Int) !=(au b).length)=true:=bne_iff_ne.2 (by omega)
  simp (maxSteps:=9^9) only[↓al,ak,simprocAttr,Tg,Ti,iJ,vO,bT,f166,JW,mb]
  refine⟨⟨_,_,rfl⟩,?_⟩
  rcases Nat.lt_or_gt_of_ne bR with aH|aH
  ·rw[IK (Il aH),IK aH]
  ·rw[RX (Il aH),RX aH]
def iK:br where
 pre:=fun ds=>∃a b:Nat,ds=[aZ a,aZ b]∧(au a).length≤20000∧(au b).length≤20000
 res:=fun ds=>match ds with
  |[.ints _ xs,.ints _ aC]=>if val xs<val aC then .du [.ints .i64 [],.bool false]else .du [aZ (val xs - val aC),.bool true]
  |_=> .nilp
theorem FA (Γ:Env) (Oz:Γ.mt 167=some oZ) (f131:Γ.fn 131=some iJ) (JX:Γ.mt 131=none) (ds:List D) (h:iK.pre ds):bK Γ Tl Tm ds fun d=>d=iK.res ds:=by
 obtain⟨a,b,rfl,b4,dJ⟩:=h
 by_cases c:a<b
 ·have bR:e8 (a:Int) b<0:=by rw[IK c];decide
  simp (maxSteps:=9^9) only[↓al,ak,simprocAttr,dy,bF,Tl,Tm,iK,Oz,oZ,f131,JX,iJ,bT,bR,c]
  exact⟨a,b,rfl,by omega,by omega⟩
 ·have bR:¬e8 (a:Int) b<0:=by
   unfold e8;split
   ·omega
   ·split<;>decide
  simp (maxSteps:=9^9) only[↓al,ak,simprocAttr,dy,bF,Tl,Tm,iK,Oz,oZ,f131,JX,iJ,bT,bR,c]
  have aH:(au b).length≤(au a).length:=by
   rcases Nat.lt_or_ge (au a).length (au b).length with h|h
   ·exact absurd (Il h) c
   ·exact h
  refine⟨⟨a,b,rfl,by omega,by omega⟩,⟨au a,au b,(au a).length,c4 a,c4 b,by omega,by omega,by omega,.inr ⟨rfl,?_⟩⟩⟩
  rw[bT,bT];omega
def h3:br where
 pre:=fun ds=>∃n:Int,ds=[.int .i64 n]∧aI n
 res:=fun ds=>match ds with
  |[.int _ n]=>aZ n.toNat
  |_=> .nilp
theorem FB (Γ:Env) (ds:List D) (h:h3.pre ds):bK Γ adE adF ds fun d=>d=h3.res ds:=by
 obtain⟨N,rfl,cg⟩:=h
 simp (maxSteps:=9^9) only[↓al,ak,simprocAttr,adE,adF,h3]
 refine cB (fun s=>∃out:List Int,s.af 3= .own 3 0 out.length∧s.aA 3=some ⟨false,false,.ints .i64 out⟩∧out=au N.toNat) ?_ ?_
 ·simp (maxSteps:=9^9) only[↓al,ak,simprocAttr]
  refine eV (fun s=>∃(out:List Int) (n:Int),s.af 3= .own 3 0 out.length∧s.aA 3=some ⟨false,false,.ints .i64 out⟩∧s.af 0= .d (.int .i64 n)∧n≤N∧aI n∧out.length+(au n.toNat).length≤1000∧out++au n.toNat=au N.toNat) (fun s=>match s.af 0 with| .d (.int _ n)=>n.toNat|_=>0) ?_ ?_
  ·refine⟨[],N,?_⟩
   simp (maxSteps:=9^9) only[↓al,ak,simprocAttr]
   refine⟨Int.le_refl _,cg,?_⟩
   have:=x7 (n:=N.toNat) (k:=3) (by simp only[aI]at cg;omega)
   omega
  ·rintro s ⟨out,n,aq,a5,h0,aJ,ar,hlen,aB⟩
   by_cases ay:n>0
   ·simp (maxSteps:=9^9) only[↓al,ak,simprocAttr,aq,a5,h0,ay,Rd,aaF]
    have aQ:au n.toNat=n % 16777216::au (n / 16777216).toNat:=by
     rw[zx (by omega),show n.toNat / 16777216=(n / 16777216).toNat by omega,show ((n.toNat % 16777216:Nat):Int)=n % 16777216 by omega]
    rw[aQ]at aB hlen
    simp only[List.length_cons]at hlen
    repeat (refine And.intro (by first|omega|(simp only[aI];omega)|(simp only[aI]at*;omega)|(simp only[List.length_append,List.length_cons,List.length_nil,List.length_set,b1];omega)) ?_)
    refine⟨⟨out++[n % 16777216],n / 16777216,rfl,rfl,rfl,by omega,by simp only[aI]at*;omega,by simp only[List.length_append,List.length_cons,List.length_nil];omega,by rw[←aB];simp⟩,by omega⟩
   ·simp (maxSteps:=9^9) only[↓al,ak,simprocAttr,aq,a5,h0,ay]
    refine⟨out,rfl,rfl,?_⟩
    rw[show n.toNat=0 by omega,hv,List.append_nil]at aB
    exact aB
 ·rintro s ⟨out,aq,a5,aB⟩
  simp (maxSteps:=9^9) only[↓al,ak,simprocAttr,aq,a5]
  rw[List.take_length,aB]
def o0:br where
 pre:=fun ds=>∃xs aC:List Int,ds=[.ints .i64 xs,.ints .i64 aC]∧ch xs∧ch aC∧xs.length≤10000∧aC.length≤10000
 res:=fun ds=>match ds with
  |[.ints _ xs,.ints _ aC]=>aZ (val xs*val aC)
  |_=> .nilp
theorem FC (Γ:Env) (f163:Γ.fn 163=some ki) (yG:Γ.mt 163=none) (vn:Γ.mt 162=some jt) (ds:List D) (h:o0.pre ds):bK Γ acm acn ds fun d=>d=o0.res ds:=by
 obtain⟨xs,aC,rfl,aj,hy,c7,gW⟩:=h
 simp (maxSteps:=9^9) only[↓al,ak,simprocAttr,acm,acn,o0]
 repeat (refine And.intro (by first|omega|(simp only[aI];omega)|(simp only[aI]at*;omega)|(simp only[List.length_append,List.length_cons,List.length_nil,List.length_set,b1];omega)) ?_)
 refine cB (fun s=>∃out:List Int,s.af 5= .own 16 0 out.length∧s.aA 16=some ⟨false,false,.ints .i64 out⟩∧ch out∧out.length≤20000∧val out=val xs*val aC) ?_ ?_
 ·simp (maxSteps:=9^9) only[↓al,ak,simprocAttr]
  refine eV (fun s=>∃(out:List Int) (i:Nat),s.af 0= .d (.ints .i64 xs)∧s.af 1= .d (.ints .i64 aC)∧s.af 5= .own 16 0 out.length∧s.aA 16=some ⟨false,false,.ints .i64 out⟩∧s.af 17= .d (.ints .i64 xs)∧s.af 18= .d (.int .i64 xs.length)∧s.af 19= .d (.int .i64 i)∧
   ch out∧out.length=xs.length+aC.length∧i≤xs.length∧val out=val (xs.take i)*val aC∧∀j,i+aC.length≤j→out.getD j 0=0)
   (fun s=>match s.af 19 with| .d (.int _ n)=>xs.length - n.toNat|_=>0) ?_ ?_
  ·refine⟨List.replicate (xs.length+aC.length) 0,0,?_⟩
   simp (maxSteps:=2000000) only[↓al,ak,↓reduceIte,reduceCtorEq,Nat.reduceEqDiff,Nat.reduceLeDiff,Nat.reduceSub,Nat.reduceAdd,Int.reduceToNat,Nat.reducePow,Int.reducePow,Int.reduceLE,Int.reduceLT,IntKind.bits]
   rw[show ((xs.length:Int)+aC.length).toNat=xs.length+aC.length by omega]
   refine⟨rfl,rfl,rfl,fun x aj=> ?_,Nat.zero_le _,by rw[Ek];simp[val],fun j _=> ?_⟩
   ·rw[List.eq_of_mem_replicate aj];decide
   ·rw[List.getD_eq_getElem?_getD,List.getElem?_replicate];split<;>rfl
  ·rintro s ⟨out,i,h0,h1,aG,iO,uA,pe,uB,aH,hlen,hi,aB,bp⟩
   by_cases pw:(i:Int)<xs.length
   ·have Vs:i<xs.length:=by omega
    simp (maxSteps:=9^9) only[↓al,ak,simprocAttr,h0,h1,aG,iO,uA,pe,uB,pw,Vs]
    refine cB (fun s=>∃out:List Int,s.af 0= .d (.ints .i64 xs)∧s.af 1= .d (.ints .i64 aC)∧s.af 5= .own 16 0 out.length∧s.aA 16=some ⟨false,false,.ints .i64 out⟩∧s.af 17= .d (.ints .i64 xs)∧s.af 18= .d (.int .i64 xs.length)∧s.af 19= .d (.int .i64 i)∧ch out∧out.length=xs.length+aC.length∧val out=val (xs.take (i+1))*val aC∧∀j,i+1+aC.length≤j→out.getD j 0=0) ?_ ?_
    ·simp (maxSteps:=9^9) only[↓al,ak,simprocAttr,h0,h1,aG,iO,uA,pe,uB,pw,Vs]
     repeat (refine And.intro (by first|omega|(simp only[aI];omega)|(simp only[aI]at*;omega)|(simp only[List.length_append,List.length_cons,List.length_nil,List.length_set,b1];omega)) ?_)
     refine cB (fun s=>∃(da:List Int) (c:Nat),s.af 0= .d (.ints .i64 xs)∧s.af 1= .d (.ints .i64 aC)∧s.af 5= .own 16 0 da.length∧s.aA 16=some ⟨false,false,.ints .i64 da⟩∧s.af 17= .d (.ints .i64 xs)∧s.af 18= .d (.int .i64 xs.length)∧s.af 19= .d (.int .i64 i)∧s.af 6= .d (.int .i64 i)∧s.af 8= .box 8 0∧s.aA 8=some ⟨false,false,.cells [.d (.int .i64 (c:Nat))]⟩∧
      ch da∧da.length=xs.length+aC.length∧c<16777216∧val da+16777216^(i+aC.length)*c=val out+16777216^i*((xs.getD i 0).toNat*val aC)∧∀j,i+aC.length≤j→da.getD j 0=0) ?_ ?_
     ·simp (maxSteps:=9^9) only[↓al,ak,simprocAttr,h0,h1,aG,iO,uA,pe,uB,pw,Vs]
      refine eV (fun s=>∃(da:List Int) (c k:Nat),s.af 0= .d (.ints .i64 xs)∧s.af 1= .d (.ints .i64 aC)∧s.af 5= .own 16 0 da.length∧s.aA 16=some ⟨false,false,.ints .i64 da⟩∧s.af 17= .d (.ints .i64 xs)∧s.af 18= .d (.int .i64 xs.length)∧s.af 19= .d (.int .i64 i)∧s.af 6= .d (.int .i64 i)∧s.af 8= .box 8 0∧s.aA 8=some ⟨false,false,.cells [.d (.int .i64 (c:Nat))]⟩∧s.af 7= .d (.int .i64 (xs.getD i 0))∧s.af 24= .d (.ints .i64 aC)∧s.af 25= .d (.int .i64 aC.length)∧s.af 26= .d (.int .i64 k)∧
       ch da∧da.length=xs.length+aC.length∧c<16777216∧k≤aC.length∧val da+16777216^(i+k)*c=val out+16777216^i*((xs.getD i 0).toNat*val (aC.take k))∧∀j,i+aC.length≤j→da.getD j 0=0)
       (fun s=>match s.af 26 with| .d (.int _ n)=>aC.length - n.toNat|_=>0) ?_ ?_
      ·refine⟨out,0,0,?_⟩
       simp (maxSteps:=9^9) only[↓al,ak,simprocAttr,h0,h1,aG,iO,uA,pe,uB,Int.natCast_zero]
       (repeat' apply And.intro)<;>first|with_reducible rfl|omega|(simp only[List.length_append,List.length_cons,List.length_nil,List.length_set,List.length_replicate];omega)|(simp only[aI];omega)|(simp only[List.length_set];done)|(rw[Int.toNat_of_nonneg (by omega)];done)|exact aH|exact bp|exact(by simp[val])
      ·rintro s ⟨da,c,k,h0,h1,aG,iO,uA,pe,uB,aM,bn,bZ,aS,hr,uC,ag3,eG,iF,ay,ad,qj,qk⟩
       by_cases zh:(k:Int)<aC.length
       ·have avq:k<aC.length:=by omega
        have aN:((i:Int)+k).toNat=i+k:=by omega
        have aX:i+k<da.length:=by omega
        have rP:=aj.getD i
        have Vp:=hy.getD k
        have bz:=eG.getD (i+k)
        have zL:xs.getD i 0*aC.getD k 0=(((xs.getD i 0).toNat*(aC.getD k 0).toNat:Nat):Int):=by
         rw[Int.natCast_mul,Int.toNat_of_nonneg rP.1,Int.toNat_of_nonneg Vp.1]
        have z8:=Yx (x:=(xs.getD i 0).toNat) (y:=(aC.getD k 0).toNat) (c:=c) (o:=(da.getD (i+k) 0).toNat) (by omega) (by omega) ay (by omega)
        simp (maxSteps:=9^9) only[↓al,ak,simprocAttr,dy,bF,h0,h1,aG,iO,uA,pe,uB,aM,bn,bZ,aS,hr,uC,ag3,zh,avq,aN,aX,zL,vn,jt]
        generalize jG:da.getD (i+k) 0+(((xs.getD i 0).toNat*(aC.getD k 0).toNat:Nat):Int)=HL
        have e5:=amf (out:=da) (j:=i+k) (c:=c) (x:=(xs.getD i 0).toNat) (y:=(aC.getD k 0).toNat) (s:=HL+c) eG aX (by omega)
        have GS:0≤HL:=by omega
        have avm:HL+c<16777216*16777216:=by omega
        repeat (refine And.intro (by first|omega|(simp only[aI];omega)|(simp only[aI]at*;omega)|(simp only[List.length_append,List.length_cons,List.length_nil,List.length_set,b1];omega)) ?_)
        refine⟨⟨HL,(c:Int),rfl,rfl,by omega⟩,?_⟩
        repeat (refine And.intro (by first|omega|(simp only[aI];omega)|(simp only[aI]at*;omega)|(simp only[List.length_append,List.length_cons,List.length_nil,List.length_set,b1];omega)) ?_)
        refine⟨⟨da.set (i+k) ((HL+c) % 16777216),((HL+c) / 16777216).toNat,k+1,?_⟩,by omega⟩
        (repeat' apply And.intro)<;>first|with_reducible rfl|omega|(simp only[List.length_append,List.length_cons,List.length_nil,List.length_set,List.length_replicate];omega)|(simp only[aI];omega)|(simp only[List.length_set];done)|(rw[Int.toNat_of_nonneg (by omega)];done)|exact eG.set _ (by omega) (by omega)|exact(by congr 5;omega)|exact(fun j aF=>by rw[x1 (by omega)];exact qk j aF)|exact(by
         rw[show i+(k+1)=i+k+1 by omega,e5,Nat.mul_add,←Nat.add_assoc,qj,D5 (by omega),Nat.mul_add,Nat.mul_add,Nat.add_assoc]
         congr 2
         rw[Nat.pow_add,Nat.mul_assoc]
         congr 1
         rw[Nat.mul_left_comm])
       ·simp (maxSteps:=9^9) only[↓al,ak,simprocAttr,h0,h1,aG,iO,uA,pe,uB,aM,bn,bZ,aS,hr,uC,ag3,zh]
        rw[List.take_of_length_le (by omega),show k=aC.length by omega]at qj
        exact⟨da,c,rfl,rfl,rfl,eG,iF,ay,qj,qk⟩
     ·rintro s ⟨da,c,h0,h1,aG,iO,uA,pe,uB,aM,bn,bZ,eG,iF,ay,qj,qk⟩
      have aN:((i:Int)+aC.length).toNat=i+aC.length:=by omega
      have aX:i+aC.length<da.length:=by omega
      simp (maxSteps:=9^9) only[↓al,ak,simprocAttr,h0,h1,aG,iO,uA,pe,uB,aM,bn,bZ,aN,aX]
      repeat (refine And.intro (by first|omega|(simp only[aI];omega)|(simp only[aI]at*;omega)|(simp only[List.length_append,List.length_cons,List.length_nil,List.length_set,b1];omega)) ?_)
      refine⟨da.set (i+aC.length) c,by rw[List.length_set],rfl,eG.set _ (by omega) (by omega),by rw[List.length_set];exact iF,?_,fun j aF=> ?_⟩
      ·have aE:=Nc aX (c:Int)
       rw[qk _ (Nat.le_refl _)]at aE
       simp only[Int.toNat_zero,Nat.mul_zero,Nat.add_zero,Int.toNat_natCast]at aE
       rw[aE,qj,aB,D5 (by omega),Nat.add_mul,Nat.mul_assoc]
      ·rw[x1 (by omega)];exact qk j (by omega)
    ·rintro s ⟨da,h0,h1,aG,iO,uA,pe,uB,eG,iF,qj,qk⟩
     simp (maxSteps:=9^9) only[↓al,ak,simprocAttr,h0,h1,aG,iO,uA,pe,uB]
     repeat (refine And.intro (by first|omega|(simp only[aI];omega)|(simp only[aI]at*;omega)|(simp only[List.length_append,List.length_cons,List.length_nil,List.length_set,b1];omega)) ?_)
     exact⟨⟨da,i+1,rfl,rfl,by omega,eG,iF,by omega,qj,qk⟩,by omega⟩
   ·simp (maxSteps:=9^9) only[↓al,ak,simprocAttr,h0,h1,aG,iO,uA,pe,uB,pw]
    rw[List.take_of_length_le (by omega)]at aB
    exact⟨out,rfl,rfl,aH,by omega,aB⟩
 ·rintro s ⟨out,aG,iO,aH,bz,aB⟩
  simp (maxSteps:=9^9) only[↓al,ak,simprocAttr,aG,iO,f163,yG,ki]
  rw[List.take_length,aB]
  exact⟨⟨out,rfl,aH,by omega⟩,rfl⟩
theorem QJ {xs:List Int} {i:Nat} (h:i<xs.length) (x:Int):(xs.set i x).getD i 0=x:=by
 rw[List.getD_eq_getElem?_getD,List.getElem?_set_self h];rfl
def sx:br where
 pre:=fun ds=>∃xs:List Int,ds=[.ints .i64 xs]∧xs.length≤100000
 res:=fun ds=>match ds with
  |[.ints _ xs]=> .ints .i64 xs
  |_=> .nilp
 own:=true
theorem FD (Γ:Env) (ds:List D) (h:sx.pre ds):Fa Γ ada adb ds fun d=>d=sx.res ds:=by
 obtain⟨xs,rfl,hlen⟩:=h
 simp (maxSteps:=9^9) only[↓al,ak,simprocAttr,ada,adb,sx]
 intro b aw
 cases b with
 |true=>
  have:xs=[]:=by
   have:=aw rfl
   cases xs with
   |nil=>rfl
   |cons _ _=>simp at this
  subst this
  simp (maxSteps:=9^9) only[↓al,ak,simprocAttr]
 |false=>
  simp (maxSteps:=9^9) only[↓al,ak,simprocAttr,List.nil_append]
  unfold b1;omega
def tR:gu where
 pre:=fun a4 cs=>∃xs:List Int,a4=[.own bF 0 xs.length]∧cs=[.ints .i64 xs]∧xs.length≤100000
 res:=fun a4 cs=> .du []
 out:=fun a4 cs=>match cs with
  |[.ints _ xs]=>[.ints .i64 xs.reverse]
  |_=>[]
theorem FE (Γ:Env) (a4:List ag) (cs:List BC) (h:tR.pre a4 cs):l7 Γ adW adX a4 cs fun d cs'=>d=tR.res a4 cs∧cs'=tR.out a4 cs:=by
 obtain⟨xs,rfl,rfl,hlen⟩:=h
 simp (maxSteps:=9^9) only[↓al,ak,simprocAttr,dy,bF,adW,adX,tR]
 repeat (refine And.intro (by first|omega|(simp only[aI];omega)|(simp only[aI]at*;omega)|(simp only[List.length_append,List.length_cons,List.length_nil,List.length_set,b1];omega)) ?_)
 refine eV (fun s=>∃(g5:List Int) (i:Nat) (j:Int),s.af 0= .own 1000000 0 xs.length∧s.af 2= .d (.int .i64 i)∧s.af 3= .d (.int .i64 j)∧s.aA 1000000=some ⟨false,true,.ints .i64 g5⟩∧
  g5.length=xs.length∧(i:Int)+j=xs.length - 1∧i≤xs.length∧-1≤j∧(∀k:Nat,k<xs.length→g5.getD k 0=if (k<i∨j<k)then xs.getD (xs.length - 1 - k) 0 else xs.getD k 0))
  (fun s=>match s.af 3 with| .d (.int _ j)=>(j+1).toNat|_=>0) ?_ ?_
 ·refine⟨xs,0,xs.length - 1,?_⟩
  simp (maxSteps:=9^9) only[↓al,ak,simprocAttr,dy,bF]
  repeat (refine And.intro (by first|omega|(simp only[aI];omega)|(simp only[aI]at*;omega)|(simp only[List.length_append,List.length_cons,List.length_nil,List.length_set,b1];omega)) ?_)
  intro k ad
  rw[if_neg (by omega)]
 ·rintro s ⟨g5,i,j,h0,h2,aq,kA,iF,afn,hi,aF,ad⟩
  by_cases c:(i:Int)<j
  ·have aN:i<xs.length:=by omega
   have aX:j.toNat<xs.length:=by omega
   have cc:(0:Int)≤j:=by omega
   have cN:j<xs.length:=by omega
   simp (maxSteps:=9^9) only[↓al,ak,simprocAttr,dy,bF,h0,h2,aq,kA,c,aN,aX,cc,cN,iF,Int.toNat_natCast,List.length_set]
   repeat (refine And.intro (by first|omega|(simp only[aI];omega)|(simp only[aI]at*;omega)|(simp only[List.length_append,List.length_cons,List.length_nil,List.length_set,b1];omega)) ?_)
   refine⟨⟨(g5.set i (g5.getD j.toNat 0)).set j.toNat (g5.getD i 0),i+1,j - 1,by omega,rfl,rfl,by simp[iF],by omega,by omega,by omega,fun k yZ=> ?_⟩,by omega⟩
   by_cases bh:k=j.toNat
   ·subst bh
    rw[QJ (by simp[iF];omega),ad i (by omega),if_neg (by omega),if_pos (by omega)]
    congr 1;omega
   ·rw[x1 (fun e=>bh e.symm)]
    by_cases bB:k=i
    ·subst bB
     rw[QJ (by omega),ad j.toNat (by omega),if_neg (by omega),if_pos (by omega)]
     congr 1;omega
    ·rw[x1 (fun e=>bB e.symm),ad k yZ]
     by_cases c2:k<i∨j<k
     ·rw[if_pos c2,if_pos (by omega)]
     ·rw[if_neg c2,if_neg (by omega)]
  ·simp (maxSteps:=9^9) only[↓al,ak,simprocAttr,dy,bF,h0,h2,aq,kA,c]
   congr 2
   refine List.ext_getElem (by simp[iF]) fun k h1 h2=> ?_
   have:=ad k (by omega)
   rw[List.getD_eq_getElem?_getD,List.getElem?_eq_getElem h1]at this
   simp only[Option.getD_some]at this
   rw[this,List.getElem_reverse]
   split
   ·rw[List.getD_eq_getElem?_getD,List.getElem?_eq_getElem (by omega)];rfl
   ·rw[List.getD_eq_getElem?_getD,List.getElem?_eq_getElem (by omega)]
    simp only[Option.getD_some]
    congr 1
    omega
def tS:br where
 pre:=fun ds=>∃xs:List Int,ds=[.ints .i64 xs]∧xs.length≤100000
 res:=fun ds=>match ds with
  |[.ints _ xs]=> .ints .i64 xs.reverse
  |_=> .nilp
 own:=true
theorem FF (Γ:Env) (f173:Γ.fn 173=some sx) (TR:Γ.mt 173=none) (atf:Γ.mt 202=some tR) (ds:List D) (h:tS.pre ds):Fa Γ adS adT ds fun d=>d=tS.res ds:=by
 obtain⟨xs,rfl,hlen⟩:=h
 simp (maxSteps:=9^9) only[↓al,ak,simprocAttr,dy,bF,adS,adT,tS,f173,TR,sx,atf,tR]
 exact⟨⟨xs,rfl,hlen⟩,⟨xs,rfl,rfl,hlen⟩,List.length_reverse⟩
def tT:List Int→List Int→Int
 |[],[]=>0
 |[],_::_=> -1
 |_::_,[]=>1
 |x::xs,y::aC=>if e8 x y=0 then tT xs aC else e8 x y
def tU:br where
 pre:=fun ds=>∃xs aC:List Int,ds=[.ints .i64 xs,.ints .i64 aC]∧xs.length≤100000∧aC.length=xs.length
 res:=fun ds=>match ds with
  |[.ints _ xs,.ints _ aC]=> .int .i64 (tT xs aC)
  |_=> .nilp
theorem YE:∀{xs aC:List Int} {i:Nat},(∀k,k<i→xs.getD k 0=aC.getD k 0)→i<xs.length→i<aC.length→e8 (xs.getD i 0) (aC.getD i 0)≠0→tT xs aC=e8 (xs.getD i 0) (aC.getD i 0)
 |[],_,_,_,h,_,_=>by simp at h
 |_::_,[],_,_,_,h,_=>by simp at h
 |x::xs,y::aC,0,_,_,_,eB=>by
  simp only[List.getD_cons_zero]at*
  rw[tT,if_neg eB]
 |x::xs,y::aC,i+1,ad,h1,h2,eB=>by
  have h0:=ad 0 (by omega)
  simp only[List.getD_cons_zero,List.getD_cons_succ]at*
  rw[tT,h0,IL,if_pos rfl]
  exact YE (fun k cE=>by have:=ad (k+1) (by omega);simpa using this) (by simpa using h1) (by simpa using h2) eB
theorem YF:∀(xs:List Int),tT xs xs=0
 |[]=>rfl
 |x::xs=>by rw[tT,IL,if_pos rfl];exact YF xs
theorem FG (Γ:Env) (f166:Γ.fn 166=some mb) (JW:Γ.mt 166=none) (ds:List D) (h:tU.pre ds):bK Γ adk adl ds fun d=>d=tU.res ds:=by
 obtain⟨xs,aC,rfl,hlen,B1⟩:=h
 simp (maxSteps:=9^9) only[↓al,ak,simprocAttr,adk,adl,tU]
 refine cB (fun s=>s.af 0= .d (.ints .i64 xs)∧s.af 1= .d (.ints .i64 aC)∧tT xs aC=0) ?_ ?_
 ·simp (maxSteps:=9^9) only[↓al,ak,simprocAttr]
  refine eV (fun s=>∃i:Nat,s.af 0= .d (.ints .i64 xs)∧s.af 1= .d (.ints .i64 aC)∧s.af 9= .d (.ints .i64 xs)∧s.af 10= .d (.int .i64 xs.length)∧s.af 11= .d (.int .i64 i)∧i≤xs.length∧∀k,k<i→xs.getD k 0=aC.getD k 0)
   (fun s=>match s.af 11 with| .d (.int _ n)=>xs.length - n.toNat|_=>0) ?_ ?_
  ·refine⟨0,?_⟩
   simp (maxSteps:=9^9) only[↓al,ak,simprocAttr]
   repeat (refine And.intro (by first|omega|(simp only[aI];omega)|(simp only[aI]at*;omega)|(simp only[List.length_append,List.length_cons,List.length_nil,List.length_set,b1];omega)) ?_)
   exact fun k ad=>absurd ad (Nat.not_lt_zero _)
  ·rintro s ⟨i,h0,h1,bH,bI,cv,hi,ad⟩
   by_cases ci:(i:Int)<xs.length
   ·have aN:i<xs.length:=by omega
    have aX:i<aC.length:=by omega
    have cc:¬((i:Int)≥aC.length):=by omega
    by_cases j5:e8 (xs.getD i 0) (aC.getD i 0)=0
    ·have Vt:(e8 (xs.getD i 0) (aC.getD i 0) !=0)=false:=by rw[j5];rfl
     simp (maxSteps:=9^9) only[↓al,ak,simprocAttr,h0,h1,bH,bI,cv,ci,aN,aX,cc,f166,JW,mb,Vt,Int.toNat_natCast]
     repeat (refine And.intro (by first|omega|(simp only[aI];omega)|(simp only[aI]at*;omega)|(simp only[List.length_append,List.length_cons,List.length_nil,List.length_set,b1];omega)) ?_)
     refine⟨⟨_,_,rfl⟩,?_⟩
     repeat (refine And.intro (by first|omega|(simp only[aI];omega)|(simp only[aI]at*;omega)|(simp only[List.length_append,List.length_cons,List.length_nil,List.length_set,b1];omega)) ?_)
     refine⟨⟨i+1,by omega,by omega,fun k cE=> ?_⟩,by omega⟩
     by_cases e:k=i
     ·subst e
      unfold e8 at j5
      split at j5
      ·omega
      ·split at j5<;>omega
     ·exact ad k (by omega)
    ·have Vt:(e8 (xs.getD i 0) (aC.getD i 0) !=0)=true:=bne_iff_ne.2 j5
     simp (maxSteps:=9^9) only[↓al,ak,simprocAttr,h0,h1,bH,bI,cv,ci,aN,aX,cc,f166,JW,mb,Vt,Int.toNat_natCast]
     repeat (refine And.intro (by first|omega|(simp only[aI];omega)|(simp only[aI]at*;omega)|(simp only[List.length_append,List.length_cons,List.length_nil,List.length_set,b1];omega)) ?_)
     exact⟨⟨_,_,rfl⟩,by rw[YE ad aN aX j5]⟩
   ·simp (maxSteps:=9^9) only[↓al,ak,simprocAttr,h0,h1,bH,bI,cv,ci]
    have:xs=aC:=List.ext_getElem (by omega) fun k h1 h2=>by
     have:=ad k (by omega)
     rw[List.getD_eq_getElem?_getD,List.getElem?_eq_getElem h1,List.getD_eq_getElem?_getD,List.getElem?_eq_getElem h2]at this
     simpa using this
    rw[this]
    exact YF aC
 ·rintro s ⟨h0,h1,ay⟩
  have c:¬((xs.length:Int)<aC.length):=by omega
  simp (maxSteps:=9^9) only[↓al,ak,simprocAttr,h0,h1,c,ay]
theorem anP {a b x y p:Int} (h:e8 x y≠0) (aQ:0<p) (a6:0≤a) (aw:0≤b) (uw:a<p) (cH:b<p):e8 (a+p*x) (b+p*y)=e8 x y:=by
 unfold e8 at*
 by_cases h1:x<y
 ·have:p*(x+1)≤p*y:=Int.mul_le_mul_of_nonneg_left (by omega) (by omega)
  rw[Int.mul_add]at this
  rw[if_pos h1,if_pos (by omega)]
 ·by_cases h2:x>y
  ·have:p*(y+1)≤p*x:=Int.mul_le_mul_of_nonneg_left (by omega) (by omega)
   rw[Int.mul_add]at this
   rw[if_neg h1,if_pos h2,if_neg (by omega),if_pos (by omega)]
  ·rw[if_neg h1,if_neg h2]at h;exact absurd rfl h
theorem Zr:∀(n:Nat) {xs aC:List Int},xs.length=n→aC.length=n→ch xs→ch aC→tT xs.reverse aC.reverse=e8 (val xs) (val aC)
 |0,xs,aC,h1,h2,_,_=>by
  rw[List.eq_nil_of_length_eq_zero h1,List.eq_nil_of_length_eq_zero h2,IL];rfl
 |n+1,xs,aC,h1,h2,c7,gW=>by
  have aN:xs=xs.take n++[xs.getD n 0]:=by
   rw[List.getD_eq_getElem?_getD,List.getElem?_eq_getElem (by omega)]
   conv=>lhs;rw[←List.take_append_drop n xs,List.drop_eq_getElem_cons (by omega),List.drop_of_length_le (by omega)]
   rfl
  have aX:aC=aC.take n++[aC.getD n 0]:=by
   rw[List.getD_eq_getElem?_getD,List.getElem?_eq_getElem (by omega)]
   conv=>lhs;rw[←List.take_append_drop n aC,List.drop_eq_getElem_cons (by omega),List.drop_of_length_le (by omega)]
   rfl
  have cI:(xs.take n).length=n:=by rw[List.length_take];omega
  have dS:(aC.take n).length=n:=by rw[List.length_take];omega
  have cJ:=Zr n cI dS (c7.take n) (gW.take n)
  have v1:=k6 (c7.take n)
  have v2:=k6 (gW.take n)
  have d1:=c7.getD n
  have d2:=gW.getD n
  generalize xs.take n=X at*
  generalize aC.take n=Y at*
  generalize xs.getD n 0=x at*
  generalize aC.getD n 0=y at*
  subst aN aX
  rw[cI]at v1
  rw[dS]at v2
  rw[List.reverse_append,List.reverse_append,List.reverse_singleton,List.reverse_singleton,List.singleton_append,List.singleton_append,tT,AY,AY,cI,dS,cJ]
  simp only[Int.natCast_add,Int.natCast_mul,Int.toNat_of_nonneg d1.1,Int.toNat_of_nonneg d2.1]
  have aQ:(0:Int)<((16777216^n:Nat):Int):=by have:=Nat.pow_pos (n:=n) (show 0<16777216 by decide);omega
  by_cases h:e8 x y=0
  ·rw[if_pos h]
   have:x=y:=by
    unfold e8 at h
    split at h
    ·omega
    ·split at h<;>omega
   subst this
   unfold e8
   by_cases c:val X<val Y
   ·rw[if_pos (by omega),if_pos (by omega)]
   ·by_cases bS:val X>val Y
    ·rw[if_neg (by omega),if_pos (by omega),if_neg (by omega),if_pos (by omega)]
    ·rw[if_neg (by omega),if_neg (by omega),if_neg (by omega),if_neg (by omega)]
  ·rw[if_neg h,anP h aQ (by omega) (by omega) (by omega) (by omega)]
def vo:br where
 pre:=fun ds=>∃x:Int,ds=[.int .u64 x]∧0≤x∧x<18446744073709551616
 res:=fun ds=>match ds with
  |[.int _ x]=> .int .i64 (a1 x.toNat)
  |_=> .nilp
def gN:br where
 pre:=fun ds=>∃n:Nat,ds=[aZ n]∧(au n).length≤100000
 res:=fun ds=>match ds with
  |[.ints _ xs]=> .int .i64 (a1 (val xs))
  |_=> .nilp
theorem FH (Γ:Env) (f161:Γ.fn 161=some vo) (atg:Γ.mt 161=none) (ds:List D) (h:gN.pre ds):bK Γ Tw Tx ds fun d=>d=gN.res ds:=by
 obtain⟨n,rfl,hlen⟩:=h
 by_cases h0:n=0
 ·subst h0
  simp (maxSteps:=9^9) only[↓al,ak,simprocAttr,Tw,Tx,gN,hv,List.length_nil]
  rfl
 ·have aQ:=x2 h0
  have dr:(((au n).length:Int)==0)=false:=beq_false_of_ne (by omega)
  have aw:=Zi (c4 n) (Zj h0) (Qm h0)
  have aD:=(c4 n).getD ((au n).length - 1)
  have aN:(((au n).length:Int) - 1).toNat=(au n).length - 1:=by omega
  have bR:(0:Int)≤((au n).length:Int) - 1:=by omega
  have bS:((au n).length - 1)<(au n).length:=by omega
  have hw:IntKind.u64.wrap ((au n).getD ((au n).length - 1) 0)=(au n).getD ((au n).length - 1) 0:=by
   generalize (au n).getD ((au n).length - 1) 0=x at*
   unfold IntKind.wrap
   simp only[show IntKind.u64.bits=64 from rfl,show IntKind.u64.signed=false from rfl,Bool.false_and,Bool.false_eq_true,if_false]
   omega
  have hx:a1 ((au n).getD ((au n).length - 1) 0).toNat≤24:=ho.2 (by have:=aD.2;omega)
  simp (maxSteps:=9^9) only[↓al,ak,simprocAttr,Tw,Tx,gN,dr,aN,bR,bS,bT,f161,atg,vo,hw]
  rw[bT]at aw
  repeat (refine And.intro (by first|omega|(simp only[aI];omega)|(simp only[aI]at*;omega)|(simp only[List.length_append,List.length_cons,List.length_nil,List.length_set,b1];omega)) ?_)
  refine⟨⟨_,rfl,aD.1,by omega⟩,?_⟩
  repeat (refine And.intro (by first|omega|(simp only[aI];omega)|(simp only[aI]at*;omega)|(simp only[List.length_append,List.length_cons,List.length_nil,List.length_set,b1];omega)) ?_)
  rw[aw]
  omega
def hp:br where
 pre:=fun ds=>∃(xs:List Int) (k:Int),ds=[.ints .i64 xs,.int .i64 k]∧ch xs∧xs.length≤10000∧k≤200000
 res:=fun ds=>match ds with
  |[.ints _ xs,.int _ k]=>aZ (val xs*2^k.toNat)
  |_=> .nilp
theorem FI (Γ:Env) (f163:Γ.fn 163=some ki) (yG:Γ.mt 163=none) (vn:Γ.mt 162=some jt) (ds:List D) (h:hp.pre ds):bK Γ acW acX ds fun d=>d=hp.res ds:=by
 obtain⟨xs,k,rfl,aj,c7,ad⟩:=h
 obtain⟨K,b9⟩:∃K:Nat,K=k.toNat:=⟨_,rfl⟩
 have B2:(if (0:Int)>k then 0 else k)=(K:Int):=by split<;>omega
 obtain⟨Q,cw⟩:∃Q:Nat,Q=K / 24:=⟨_,rfl⟩
 obtain⟨R,eC⟩:∃R:Nat,R=K % 24:=⟨_,rfl⟩
 have ad8:R≤64:=by omega
 have d1:(K:Int).tdiv 24=(Q:Int):=by rw[cw];rfl
 have d2:(K:Int).tmod 24=(R:Int):=by rw[eC];rfl
 have ew:((Q:Int)+xs.length+1).toNat=Q+xs.length+1:=by omega
 have eN:Q+(Q+xs.length+1 - Q)≤Q+xs.length+1:=by omega
 have Cf:xs.take (Q+xs.length+1 - Q)=xs:=List.take_of_length_le (by omega)
 have zj:xs.length≤Q+xs.length+1 - Q:=by omega
 have DX:(List.replicate (Q+xs.length+1) (0:Int)).take Q++(xs++(List.replicate (Q+xs.length+1) (0:Int)).drop (Q+xs.length))=List.replicate Q 0++(xs++[0]):=by
  rw[List.take_replicate,List.drop_replicate,Nat.min_eq_left (by omega),show Q+xs.length+1 - (Q+xs.length)=1 by omega];rfl
 simp (maxSteps:=9^9) only[↓al,ak,simprocAttr,acW,acX,hp,B2,d1,d2,ew,eN,Cf,zj,DX]
 rw[b9]at*
 repeat (refine And.intro (by first|omega|(simp only[aI];omega)|(simp only[aI]at*;omega)|(simp only[List.length_append,List.length_cons,List.length_nil,List.length_set,b1];omega)) ?_)
 have gl:k.toNat=24*Q+R:=by omega
 obtain⟨p,aQ⟩:∃p:Nat,p=2^R:=⟨_,rfl⟩
 have PB:16777216^Q*p=2^k.toNat:=by rw[aQ,Bg,←Nat.pow_add,gl]
 have jv:p≤8388608:=by
  have:2^R≤2^23:=Nat.pow_le_pow_right (by decide) (by omega)
  omega
 refine cB (fun s=>s.af 7= .own 21 0 (Q+xs.length+1)∧∃out:List Int,s.aA 21=some ⟨false,false,.ints .i64 out⟩∧ch out∧out.length=Q+xs.length+1∧val out=val xs*2^k.toNat) ?_ ?_
 ·simp (maxSteps:=9^9) only[↓al,ak,simprocAttr]
  refine eV (fun s=>∃(out:List Int) (c j:Nat),s.af 5= .d (.int .i64 Q)∧s.af 6= .d (.int .i64 R)∧s.af 7= .own 21 0 (Q+xs.length+1)∧s.af 8= .box 8 0∧s.aA 8=some ⟨false,false,.cells [.d (.int .i64 c)]⟩∧s.af 9= .d (.int .i64 (Q+j:Nat))∧
   s.aA 21=some ⟨false,false,.ints .i64 out⟩∧ch out∧out.length=Q+xs.length+1∧j≤xs.length+1∧c<16777216∧(∀i,j≤i→out.getD (Q+i) 0=xs.getD i 0)∧val (out.take (Q+j))+16777216^(Q+j)*c=16777216^Q*(p*val (xs.take j)))
   (fun s=>match s.af 9 with| .d (.int _ n)=>Q+xs.length+1 - n.toNat|_=>0) ?_ ?_
  ·refine⟨List.replicate Q 0++(xs++[0]),0,0,?_⟩
   simp (maxSteps:=9^9) only[↓al,ak,simprocAttr,Int.natCast_zero,Nat.add_zero]
   (repeat' apply And.intro)<;>first|with_reducible rfl|omega|(simp only[List.length_append,List.length_cons,List.length_nil,List.length_set,List.length_replicate];omega)|(simp only[aI];omega)|(simp only[List.length_set];done)|(rw[Int.toNat_of_nonneg (by omega)];done)|exact(ch.append (fun x aj=>by rw[List.eq_of_mem_replicate aj];decide) (aj.snoc (by decide) (by decide)))|exact(fun i _=>by
    rw[List.getD_eq_getElem?_getD,List.getElem?_append_right (by rw[List.length_replicate];omega),List.length_replicate,Nat.add_sub_cancel_left,←List.getD_eq_getElem?_getD]
    rcases Nat.lt_or_ge i xs.length with h|h
    ·rw[List.getD_eq_getElem?_getD,List.getElem?_append_left h,←List.getD_eq_getElem?_getD]
    ·rw[List.getD_eq_getElem?_getD,List.getElem?_append_right h,List.getD_eq_getElem?_getD,List.getElem?_eq_none (l:=xs) h]
     rcases Nat.eq_zero_or_pos (i - xs.length)with h0|h0
     ·rw[h0];rfl
     ·rw[List.getElem?_eq_none (by simp;omega)])|exact(by
    rw[List.take_append_of_le_length (by simp),List.take_of_length_le (by simp),Ek];simp[val])
  ·rintro s ⟨out,c,j,aG,aM,aS,bn,bZ,bH,z9,aH,hlen,aF,ay,q4,aB⟩
   by_cases LL:((Q+j:Nat):Int)<(Q+xs.length+1:Nat)
   ·have aN:Q+j<Q+xs.length+1:=by omega
    have KR:=aj.getD j
    have bb:=q4 j (Nat.le_refl _)
    have zL:xs.getD j 0*2^R=(((xs.getD j 0).toNat*p:Nat):Int):=by rw[Int.natCast_mul,Int.toNat_of_nonneg KR.1,aQ,Int.natCast_pow];rfl
    have z8:(xs.getD j 0).toNat*p≤16777215*8388608:=Nat.mul_le_mul (by omega) jv
    simp (maxSteps:=9^9) only[↓al,ak,simprocAttr,dy,bF,aG,aM,aS,bn,bZ,bH,z9,LL,aN,hlen,Int.toNat_natCast,bb,ad8,zL,vn,jt]
    have e5:=amg (out:=out) (x:=(xs.getD j 0).toNat) (by omega) aB
    have jI:(xs.getD j 0).toNat*p≤140737488355328:=by omega
    rw[←H2]at e5
    generalize (xs.getD j 0).toNat*p=X at*
    repeat (refine And.intro (by first|omega|(simp only[aI];omega)|(simp only[aI]at*;omega)|(simp only[List.length_append,List.length_cons,List.length_nil,List.length_set,b1];omega)) ?_)
    refine⟨⟨_,_,rfl,rfl,by omega⟩,?_⟩
    repeat (refine And.intro (by first|omega|(simp only[aI];omega)|(simp only[aI]at*;omega)|(simp only[List.length_append,List.length_cons,List.length_nil,List.length_set,b1];omega)) ?_)
    refine⟨⟨out.set (Q+j) (((X:Int)+c) % 16777216),(((X:Int)+c) / 16777216).toNat,j+1,?_⟩,by omega⟩
    (repeat' apply And.intro)<;>first|with_reducible rfl|omega|(simp only[List.length_append,List.length_cons,List.length_nil,List.length_set,List.length_replicate];omega)|(simp only[aI];omega)|(simp only[List.length_set];done)|(rw[Int.toNat_of_nonneg (by omega)];done)|exact aH.set _ (by omega) (by omega)|exact(fun i hi=>by rw[x1 (by omega)];exact q4 i (by omega))|exact e5
   ·simp (maxSteps:=9^9) only[↓al,ak,simprocAttr,aG,aM,aS,bn,bZ,bH,z9,LL]
    have:j=xs.length+1:=by omega
    subst this
    rw[List.take_of_length_le (by omega),List.take_of_length_le (by omega),←Nat.mul_assoc]at aB
    refine⟨out,rfl,aH,hlen,?_⟩
    have:=carry_zero aB (by rw[←Nat.add_assoc];exact anJ aj (by omega))
    rw[this.2,PB,Nat.mul_comm]
 ·rintro s ⟨aS,out,z9,aH,hlen,aB⟩
  simp (maxSteps:=9^9) only[↓al,ak,simprocAttr,aS,z9,f163,yG,ki,←hlen,List.take_length]
  exact⟨⟨out,rfl,aH,by omega⟩,by rw[aB]⟩
def il:br where
 pre:=fun ds=>∃(xs:List Int) (k:Int),ds=[.ints .i64 xs,.int .i64 k]∧ch xs∧xs.length≤20000∧aI k
 res:=fun ds=>match ds with
  |[.ints _ xs,.int _ k]=>aZ (val xs / 2^k.toNat)
  |_=> .nilp
theorem FJ (Γ:Env) (f163:Γ.fn 163=some ki) (yG:Γ.mt 163=none) (f173:Γ.fn 173=some sx) (TR:Γ.mt 173=none) (ds:List D) (h:il.pre ds):bK Γ Tn To ds fun d=>d=il.res ds:=by
 obtain⟨xs,k,rfl,aj,c7,ux⟩:=h
 obtain⟨K,b9⟩:∃K:Nat,K=k.toNat:=⟨_,rfl⟩
 have B2:(if (0:Int)>k then 0 else k)=(K:Int):=by split<;>omega
 obtain⟨Q,cw⟩:∃Q:Nat,Q=K / 24:=⟨_,rfl⟩
 obtain⟨R,eC⟩:∃R:Nat,R=K % 24:=⟨_,rfl⟩
 have d1:(K:Int).tdiv 24=(Q:Int):=by rw[cw];rfl
 have d2:(K:Int).tmod 24=(R:Int):=by rw[eC];rfl
 have gl:k.toNat=24*Q+R:=by omega
 obtain⟨p,aQ⟩:∃p:Nat,p=2^R:=⟨_,rfl⟩
 have eF:0<p:=by rw[aQ];exact Nat.two_pow_pos _
 have PB:16777216^Q*p=2^k.toNat:=by rw[aQ,Bg,←Nat.pow_add,gl]
 by_cases dr:(Q:Int)≥xs.length
 ·simp (maxSteps:=9^9) only[↓al,ak,simprocAttr,Tn,To,il,B2,d1,d2,dr]
  simp only[aI]at ux
  repeat (refine And.intro (by first|omega|(simp only[aI];omega)|(simp only[aI]at*;omega)|(simp only[List.length_append,List.length_cons,List.length_nil,List.length_set,b1];omega)) ?_)
  have h1:=H6 aj Q
  rw[List.drop_of_length_le (by omega)]at h1
  rw[←PB,←Nat.div_div_eq_div_mul,←h1]
  simp[val,hv]
 ·have bR:Q≤xs.length:=by omega
  have ew:(xs.drop Q).take (xs.length - Q)=xs.drop Q:=List.take_of_length_le (by simp)
  obtain⟨q,aO⟩:∃q:Nat,q=2^(24 - R):=⟨_,rfl⟩
  have ad8:R<24:=by omega
  have sP:p*q=16777216:=by rw[aQ,aO,←Nat.pow_add,show R+(24 - R)=24 by omega]
  have Vu:q≤16777216:=by
   have:1*q≤p*q:=Nat.mul_le_mul_right _ eF
   omega
  obtain⟨zs,sL⟩:∃zs,zs=xs.drop Q:=⟨_,rfl⟩
  have bp:ch zs:=by rw[sL];exact aj.drop Q
  have ae2:zs.length=xs.length - Q:=by rw[sL,List.length_drop]
  have avr:∀i,xs.getD (Q+i) 0=zs.getD i 0:=fun i=>by rw[sL,List.getD_eq_getElem?_getD,List.getD_eq_getElem?_getD,List.getElem?_drop]
  have vK:val zs / p=val xs / 2^k.toNat:=by rw[sL,H6 aj,Nat.div_div_eq_div_mul,PB]
  simp (maxSteps:=9^9) only[↓al,ak,simprocAttr,Tn,To,il,B2,d1,d2,dr,bR,f173,TR,sx,Int.toNat_natCast,List.take_length,←sL]
  simp only[aI]at ux
  repeat (refine And.intro (by first|omega|(simp only[aI];omega)|(simp only[aI]at*;omega)|(simp only[List.length_append,List.length_cons,List.length_nil,List.length_set,b1];omega)) ?_)
  refine⟨⟨zs,rfl,by omega⟩,?_⟩
  refine cB (fun s=>s.af 7= .own 22 0 zs.length∧∃out:List Int,s.aA 22=some ⟨false,false,.ints .i64 out⟩∧ch out∧out.length=zs.length∧val out=val zs / p) ?_ ?_
  ·simp (maxSteps:=9^9) only[↓al,ak,simprocAttr]
   refine eV (fun s=>∃(out:List Int) (i:Nat),s.af 0= .d (.ints .i64 xs)∧s.af 5= .d (.int .i64 Q)∧s.af 6= .d (.int .i64 R)∧s.af 7= .own 22 0 zs.length∧s.af 24= .d (.int .i64 zs.length)∧s.af 25= .d (.int .i64 i)∧
    s.aA 22=some ⟨false,false,.ints .i64 out⟩∧ch out∧out.length=zs.length∧i≤zs.length∧(∀k,i≤k→out.getD k 0=zs.getD k 0)∧val (out.take i)+16777216^i*(val (zs.drop i) / p)=val zs / p)
    (fun s=>match s.af 25 with| .d (.int _ n)=>zs.length - n.toNat|_=>0) ?_ ?_
   ·refine⟨zs,0,?_⟩
    simp (maxSteps:=9^9) only[↓al,ak,simprocAttr]
    (repeat' apply And.intro)<;>first|with_reducible rfl|omega|(simp only[List.length_append,List.length_cons,List.length_nil,List.length_set,List.length_replicate];omega)|(simp only[aI];omega)|(simp only[List.length_set];done)|(rw[Int.toNat_of_nonneg (by omega)];done)|exact bp|exact(fun _ _=>rfl)|exact(by simp[val])
   ·rintro s ⟨out,i,h0,aG,aM,aS,hr,uC,KW,aH,hlen,hi,q4,aB⟩
    by_cases ci:(i:Int)<zs.length
    ·have aN:i<zs.length:=by omega
     have rP:=bp.getD i
     have KR:=bp.getD (i+1)
     obtain⟨x,jI⟩:∃x:Nat,zs.getD i 0=(x:Int):=⟨_,(Int.toNat_of_nonneg rP.1).symm⟩
     obtain⟨y,jk⟩:∃y:Nat,zs.getD (i+1) 0=(y:Int):=⟨_,(Int.toNat_of_nonneg KR.1).symm⟩
     have bb:out.getD i 0=(x:Int):=by rw[q4 i (Nat.le_refl _),jI]
     have aX:R≤64:=by omega
     have cc:(x:Int).fdiv (2^R)=((x / p:Nat):Int):=by
      rw[show (2:Int)^R=((p:Nat):Int)by rw[aQ,Int.natCast_pow];rfl,Int.fdiv_eq_ediv_of_nonneg _ (by omega)]
      rfl
     have cN:(out.set i ((x / p:Nat):Int)).getD i 0=((x / p:Nat):Int):=QJ (by omega) _
     have z8:=Zl eF sP (x:=x) (by omega) y
     have e5:=Zk eF sP x (val (zs.drop (i+1)))
     rw[Xy sP,jk,Int.toNat_natCast]at e5
     rw[qQ zs i,jI,Int.toNat_natCast,e5]at aB
     have hle:x / p≤x:=Nat.div_le_self _ _
     have ad9:∀u:Int,u=((x / p+y % p*q:Nat):Int)→val ((out.set i u).take (i+1))+16777216^(i+1)*(val (zs.drop (i+1)) / p)=val zs / p:=by
      rintro u rfl
      rw[Mb (by omega),Int.toNat_natCast,←aB,Nat.pow_succ,Nat.mul_assoc,Nat.add_assoc,←Nat.mul_add]
     have aaG:∀u:Int,∀k,i+1≤k→(out.set i u).getD k 0=zs.getD k 0:=fun u k ad=>by rw[x1 (by omega)];exact q4 k (by omega)
     by_cases bS:(Q:Int)+i+1<xs.length
     ·have dN:((Q:Int)+i+1).toNat=Q+(i+1):=by omega
      have fH:xs.getD (Q+(i+1)) 0=(y:Int):=by rw[avr,jk]
      have HC:((24:Int) - R).toNat=24 - R:=by omega
      have r0:24 - R≤64:=by omega
      have ayn:(y:Int)*2^(24 - R)=((y*q:Nat):Int):=by rw[Int.natCast_mul,aO,Int.natCast_pow];rfl
      have PC:((y*q:Nat):Int) % 16777216=((y % p*q:Nat):Int):=by
       rw[show (16777216:Int)=((p*q:Nat):Int)by rw[sP];rfl,←Int.natCast_emod,Nat.mul_mod_mul_right]
      have avs:vF .i64 ((x / p:Nat):Int) ((y % p*q:Nat):Int)=((x / p+y % p*q:Nat):Int):=by
       refine Z6 (k:=24 - R) (c:=y % p) ?_ ?_ (by omega)
       ·rw[←aO,Nat.div_lt_iff_lt_mul eF,Nat.mul_comm,sP];omega
       ·rw[←aO,Nat.mul_comm]
      have azz:y*q≤16777215*16777216:=Nat.mul_le_mul (by omega) Vu
      have KX:Q+(i+1)<xs.length:=by omega
      simp (maxSteps:=9^9) only[↓al,ak,simprocAttr,h0,aG,aM,aS,hr,uC,KW,ci,aN,hlen,bb,aX,cc,cN,bS,dN,fH,HC,r0,ayn,PC,avs,KX,Rd,Int.toNat_natCast,List.length_set,List.set_set]
      have hf:=ad9 _ rfl
      generalize y*q=aAm at*
      generalize x / p=U at*
      generalize y % p*q=W at*
      repeat (refine And.intro (by first|omega|(simp only[aI];omega)|(simp only[aI]at*;omega)|(simp only[List.length_append,List.length_cons,List.length_nil,List.length_set,b1];omega)) ?_)
      refine⟨⟨out.set i ((U+W:Nat):Int),i+1,?_⟩,by omega⟩
      (repeat' apply And.intro)<;>first|with_reducible rfl|omega|(simp only[List.length_append,List.length_cons,List.length_nil,List.length_set,List.length_replicate];omega)|(simp only[aI];omega)|(simp only[List.length_set];done)|(rw[Int.toNat_of_nonneg (by omega)];done)|exact aH.set _ (by omega) (by omega)|exact aaG _|exact hf
     ·have KY:y=0:=by
       rw[List.getD_eq_getElem?_getD,List.getElem?_eq_none (by omega)]at jk
       simp only[Option.getD_none]at jk;omega
      subst KY
      have hf:=ad9 ((x / p:Nat):Int) (by rw[Nat.zero_mod,Nat.zero_mul,Nat.add_zero])
      simp (maxSteps:=9^9) only[↓al,ak,simprocAttr,h0,aG,aM,aS,hr,uC,KW,ci,aN,hlen,bb,aX,cc,cN,bS,Int.toNat_natCast,List.length_set,List.set_set]
      generalize x / p=U at*
      repeat (refine And.intro (by first|omega|(simp only[aI];omega)|(simp only[aI]at*;omega)|(simp only[List.length_append,List.length_cons,List.length_nil,List.length_set,b1];omega)) ?_)
      refine⟨⟨out.set i (U:Int),i+1,?_⟩,by omega⟩
      (repeat' apply And.intro)<;>first|with_reducible rfl|omega|(simp only[List.length_append,List.length_cons,List.length_nil,List.length_set,List.length_replicate];omega)|(simp only[aI];omega)|(simp only[List.length_set];done)|(rw[Int.toNat_of_nonneg (by omega)];done)|exact aH.set _ (by omega) (by omega)|exact aaG _|exact hf
    ·simp (maxSteps:=9^9) only[↓al,ak,simprocAttr,h0,aG,aM,aS,hr,uC,KW,ci]
     have:i=zs.length:=by omega
     subst this
     rw[List.take_of_length_le (by omega),List.drop_length]at aB
     refine⟨out,rfl,aH,hlen,?_⟩
     rw[←aB];simp[val]
  ·rintro s ⟨aS,out,KW,aH,hlen,aB⟩
   simp (maxSteps:=9^9) only[↓al,ak,simprocAttr,aS,KW,f163,yG,ki,←hlen,List.take_length]
   exact⟨⟨out,rfl,aH,by omega⟩,by rw[aB,vK]⟩
def sy:gu where
 pre:=fun a4 cs=>∃(xs:List Int) (b i:Nat),a4=[.own bF 0 xs.length,.d (.int .i64 b),.d (.int .i64 i)]∧cs=[.ints .i64 xs]∧ch xs∧xs.length≤100000∧b≤2∧i≤4∧val xs*2^b+i<16777216^xs.length
 res:=fun a4 cs=> .du []
 out:=fun a4 cs=>match a4,cs with
  |[_,.d (.int _ b),.d (.int _ i)],[.ints _ xs]=>[.ints .i64 (fA xs.length (val xs*2^b.toNat+i.toNat))]
  |_,_=>[]
theorem FK (Γ:Env) (vn:Γ.mt 162=some jt) (a4:List ag) (cs:List BC) (h:sy.pre a4 cs):l7 Γ acw acx a4 cs fun d cs'=>d=sy.res a4 cs∧cs'=sy.out a4 cs:=by
 obtain⟨xs,b,k,rfl,rfl,aj,hlen,aw,ad,N9⟩:=h
 obtain⟨p,aQ⟩:∃p:Nat,p=2^b:=⟨_,rfl⟩
 have jv:p≤4:=by
  have:2^b≤2^2:=Nat.pow_le_pow_right (by decide) aw
  omega
 rw[←aQ]at N9
 simp (maxSteps:=9^9) only[↓al,ak,simprocAttr,dy,bF,acw,acx,sy,Int.toNat_natCast,←aQ]
 refine eV (fun s=>∃(g5:List Int) (c i:Nat),s.af 0= .own 1000000 0 xs.length∧s.af 1= .d (.int .i64 b)∧s.af 6= .box 6 0∧s.aA 6=some ⟨false,false,.cells [.d (.int .i64 c)]⟩∧s.af 10= .d (.int .i64 xs.length)∧s.af 11= .d (.int .i64 i)∧
  s.aA 1000000=some ⟨false,true,.ints .i64 g5⟩∧ch g5∧g5.length=xs.length∧i≤xs.length∧c<16777216∧(∀j,i≤j→g5.getD j 0=xs.getD j 0)∧val (g5.take i)+16777216^i*c=val (xs.take i)*p+k)
  (fun s=>match s.af 11 with| .d (.int _ n)=>xs.length - n.toNat|_=>0) ?_ ?_
 ·refine⟨xs,k,0,?_⟩
  simp (maxSteps:=9^9) only[↓al,ak,simprocAttr,dy,bF]
  (repeat' apply And.intro)<;>first|with_reducible rfl|omega|(simp only[List.length_append,List.length_cons,List.length_nil,List.length_set,List.length_replicate];omega)|(simp only[aI];omega)|(simp only[List.length_set];done)|(rw[Int.toNat_of_nonneg (by omega)];done)|exact aj|exact(fun _ _=>rfl)|exact(by simp[val])
 ·rintro s ⟨g5,c,i,h0,h1,aM,aY,bI,cv,kA,aH,iF,hi,ay,q4,aB⟩
  by_cases ci:(i:Int)<xs.length
  ·have aN:i<xs.length:=by omega
   have rP:=aj.getD i
   have bb:=q4 i (Nat.le_refl _)
   have aX:b≤64:=by omega
   have zL:xs.getD i 0*2^b=(((xs.getD i 0).toNat*p:Nat):Int):=by rw[Int.natCast_mul,Int.toNat_of_nonneg rP.1,aQ,Int.natCast_pow];rfl
   have z8:(xs.getD i 0).toNat*p≤16777215*4:=Nat.mul_le_mul (by omega) jv
   have e5:=apg (out:=g5) (p:=p) (by omega) (xs.getD i 0).toNat aB
   have cy:val (xs.take (i+1))*p+k=val (xs.take i)*p+k+16777216^i*((xs.getD i 0).toNat*p):=by
    rw[H2,Nat.add_mul,Nat.mul_assoc];omega
   rw[←cy]at e5
   simp (maxSteps:=9^9) only[↓al,ak,simprocAttr,dy,bF,h0,h1,aM,aY,bI,cv,kA,ci,aN,aX,iF,bb,zL,vn,jt,Int.toNat_natCast,List.length_set]
   generalize (xs.getD i 0).toNat*p=X at*
   repeat (refine And.intro (by first|omega|(simp only[aI];omega)|(simp only[aI]at*;omega)|(simp only[List.length_append,List.length_cons,List.length_nil,List.length_set,b1];omega)) ?_)
   refine⟨⟨_,_,rfl,rfl,by omega⟩,?_⟩
   repeat (refine And.intro (by first|omega|(simp only[aI];omega)|(simp only[aI]at*;omega)|(simp only[List.length_append,List.length_cons,List.length_nil,List.length_set,b1];omega)) ?_)
   refine⟨⟨g5.set i (((X:Int)+c) % 16777216),(((X:Int)+c) / 16777216).toNat,i+1,?_⟩,by omega⟩
   (repeat' apply And.intro)<;>first|with_reducible rfl|omega|(simp only[List.length_append,List.length_cons,List.length_nil,List.length_set,List.length_replicate];omega)|(simp only[aI];omega)|(simp only[List.length_set];done)|(rw[Int.toNat_of_nonneg (by omega)];done)|exact aH.set _ (by omega) (by omega)|exact(fun j aF=>by rw[x1 (by omega)];exact q4 j (by omega))|exact e5
  ·simp (maxSteps:=9^9) only[↓al,ak,simprocAttr,dy,bF,h0,h1,aM,aY,bI,cv,kA,ci]
   have:i=xs.length:=by omega
   subst this
   rw[List.take_of_length_le (by omega),List.take_length]at aB
   have:=carry_zero aB N9
   rw[←this.2,←iF,Rv aH]
def q9:gu where
 pre:=fun a4 cs=>∃(xs aC:List Int),a4=[.own bF 0 xs.length,.own (bF+1) 0 aC.length]∧cs=[.ints .i64 xs,.ints .i64 aC]∧ch xs∧ch aC∧xs.length≤100000∧aC.length=xs.length
 res:=fun a4 cs=>match cs with
  |[.ints _ xs,.ints _ aC]=> .bool (decide (val aC≤val xs))
  |_=> .nilp
 out:=fun a4 cs=>match cs with
  |[.ints _ xs,.ints _ aC]=>[.ints .i64 (if val aC≤val xs then fA xs.length (val xs - val aC)else xs),.ints .i64 aC]
  |_=>[]
theorem FL (Γ:Env) (vn:Γ.mt 162=some jt) (f190:Γ.fn 190=some tS) (aea:Γ.mt 190=none) (f189:Γ.fn 189=some tU) (aeb:Γ.mt 189=none)
 (a4:List ag) (cs:List BC) (h:q9.pre a4 cs):l7 Γ TI TJ a4 cs fun d cs'=>d=q9.res a4 cs∧cs'=q9.out a4 cs:=by
 obtain⟨xs,aC,rfl,rfl,aj,hy,hlen,B1⟩:=h
 have aec:=Zr xs.length rfl B1 aj hy
 have ex:xs.reverse.take xs.length=xs.reverse:=List.take_of_length_le (by simp)
 have ag4:aC.take xs.length=aC:=List.take_of_length_le (by omega)
 have zi:aC.reverse.take aC.length=aC.reverse:=List.take_of_length_le (by simp)
 have ag5:aC.reverse.take xs.length=aC.reverse:=List.take_of_length_le (by simp[B1])
 by_cases LM:val aC≤val xs
 ·have bR:¬tT xs.reverse aC.reverse<0:=by
   rw[aec];unfold e8
   rw[if_neg (by omega)];split<;>decide
  simp (maxSteps:=9^9) only[↓al,ak,simprocAttr,dy,bF,TI,TJ,q9,f190,aea,tS,f189,aeb,tU,LM,List.length_reverse,List.take_length,ag4,B1,ex,zi,ag5,bR]
  refine⟨⟨xs,rfl,hlen⟩,⟨aC,rfl,by omega⟩,⟨xs.reverse,aC.reverse,rfl,by simpa using hlen,by simpa using B1⟩,?_⟩
  refine cB (fun s=>∃g5:List Int,s.aA 1000000=some ⟨false,true,.ints .i64 g5⟩∧s.aA 1000001=some ⟨false,true,.ints .i64 aC⟩∧g5=fA xs.length (val xs - val aC)) ?_ ?_
  ·simp (maxSteps:=9^9) only[↓al,ak,simprocAttr,dy,bF]
   refine eV (fun s=>∃(g5:List Int) (c:Int) (i:Nat),s.af 0= .own 1000000 0 xs.length∧s.af 1= .own 1000001 0 xs.length∧s.af 5= .box 5 0∧s.aA 5=some ⟨false,false,.cells [.d (.int .i64 c)]⟩∧s.af 14= .d (.int .i64 xs.length)∧s.af 15= .d (.int .i64 i)∧
    s.aA 1000000=some ⟨false,true,.ints .i64 g5⟩∧s.aA 1000001=some ⟨false,true,.ints .i64 aC⟩∧ch g5∧g5.length=xs.length∧i≤xs.length∧-1≤c∧c≤0∧(∀j,i≤j→g5.getD j 0=xs.getD j 0)∧(val (g5.take i):Int)+16777216^i*c=val (xs.take i)+(-1)*val (aC.take i))
    (fun s=>match s.af 15 with| .d (.int _ n)=>xs.length - n.toNat|_=>0) ?_ ?_
   ·refine⟨xs,0,0,?_⟩
    simp (maxSteps:=9^9) only[↓al,ak,simprocAttr,dy,bF,B1]
    (repeat' apply And.intro)<;>first|with_reducible rfl|omega|(simp only[List.length_append,List.length_cons,List.length_nil,List.length_set,List.length_replicate];omega)|(simp only[aI];omega)|(simp only[List.length_set];done)|(rw[Int.toNat_of_nonneg (by omega)];done)|exact aj|exact(fun _ _=>rfl)|exact(by simp[val])
   ·rintro s ⟨g5,c,i,h0,h1,aG,bq,eH,jf,kA,Aa,aH,iF,hi,dO,ay,q4,aB⟩
    by_cases ci:(i:Int)<xs.length
    ·have aN:i<xs.length:=by omega
     have aX:(i:Int)<aC.length:=by omega
     have cc:i<aC.length:=by omega
     have rP:=aj.getD i
     have ag2:=hy.getD i
     have bb:=q4 i (Nat.le_refl _)
     have e5:=QT (out:=g5) (i:=i) (c:=c) (t:= -1) (s:=xs.getD i 0 - aC.getD i 0+c) (by omega) aj hy (by omega) aB
     simp (maxSteps:=9^9) only[↓al,ak,simprocAttr,dy,bF,h0,h1,aG,bq,eH,jf,kA,Aa,ci,aN,aX,cc,iF,bb,vn,jt,Int.toNat_natCast,List.length_set]
     repeat (refine And.intro (by first|omega|(simp only[aI];omega)|(simp only[aI]at*;omega)|(simp only[List.length_append,List.length_cons,List.length_nil,List.length_set,b1];omega)) ?_)
     refine⟨⟨_,_,rfl,rfl,by omega⟩,?_⟩
     repeat (refine And.intro (by first|omega|(simp only[aI];omega)|(simp only[aI]at*;omega)|(simp only[List.length_append,List.length_cons,List.length_nil,List.length_set,b1];omega)) ?_)
     refine⟨⟨g5.set i ((xs.getD i 0 - aC.getD i 0+c) % 16777216),(xs.getD i 0 - aC.getD i 0+c) / 16777216,i+1,?_⟩,by omega⟩
     (repeat' apply And.intro)<;>first|with_reducible rfl|omega|(simp only[List.length_append,List.length_cons,List.length_nil,List.length_set,List.length_replicate];omega)|(simp only[aI];omega)|(simp only[List.length_set];done)|(rw[Int.toNat_of_nonneg (by omega)];done)|exact aH.set _ (by omega) (by omega)|exact(fun j aF=>by rw[x1 (by omega)];exact q4 j (by omega))|exact e5
    ·simp (maxSteps:=9^9) only[↓al,ak,simprocAttr,dy,bF,h0,h1,aG,bq,eH,jf,kA,Aa,ci]
     have:i=xs.length:=by omega
     subst this
     rw[List.take_of_length_le (by omega),List.take_length,List.take_of_length_le (by omega)]at aB
     have jx:=k6 aH
     rw[iF]at jx
     have avp:=k6 aj
     have:=Rc (T:=val xs - val aC) (c:=c) (n:=xs.length) (v:=val g5) (by rw[aB];omega) jx (by omega) (by omega)
     exact⟨g5,rfl,Z5 aH iF this.2⟩
  ·rintro s ⟨g5,kA,Aa,UK⟩
   simp (maxSteps:=9^9) only[↓al,ak,simprocAttr,dy,bF,kA,Aa,UK]
 ·have bR:tT xs.reverse aC.reverse<0:=by
   rw[aec];unfold e8
   rw[if_pos (by omega)];decide
  simp (maxSteps:=9^9) only[↓al,ak,simprocAttr,dy,bF,TI,TJ,q9,f190,aea,tS,f189,aeb,tU,LM,List.length_reverse,List.take_length,ag4,B1,ex,zi,ag5,bR]
  exact⟨⟨xs,rfl,hlen⟩,⟨aC,rfl,by omega⟩,⟨xs.reverse,aC.reverse,rfl,by simpa using hlen,by simpa using B1⟩⟩
def ra:br where
 pre:=fun ds=>∃a:Nat,ds=[aZ a]∧(au a).length≤20000
 res:=fun ds=>match ds with
  |[.ints _ xs]=>aZ (a7 (val xs))
  |_=> .nilp
theorem FM (Γ:Env) (f163:Γ.fn 163=some ki) (yG:Γ.mt 163=none) (f128:Γ.fn 128=some gN) (C4:Γ.mt 128=none) (aed:Γ.mt 164=some sy) (aee:Γ.mt 165=some q9)
 (ds:List D) (h:ra.pre ds):bK Γ adC adD ds fun d=>d=ra.res ds:=by
 obtain⟨a,rfl,hlen⟩:=h
 obtain⟨n,aJ⟩:∃n:Nat,n=(au a).length / 2+2:=⟨_,rfl⟩
 have d1:((au a).length:Int).tdiv 2+2=(n:Int):=by
  rw[Int.tdiv_eq_ediv_of_nonneg (by omega)];omega
 have Vv:((au a).length:Int).tdiv 2=((au a).length:Int) / 2:=Int.tdiv_eq_ediv_of_nonneg (by omega)
 have aw:=x3 a
 have azb:a7 a<16777216^(n - 1):=by
  refine aaB ?_
  rw[←Nat.pow_add]
  exact Nat.lt_of_lt_of_le (Ru a) (Nat.pow_le_pow_right (by decide) (by omega))
 have azg:16777216^n=16777216*16777216^(n - 1):=by
  rw[←Nat.pow_succ',show (n - 1).succ=n by omega]
 obtain⟨t0,azA⟩:∃t:Nat,t=(a1 a+1) / 2:=⟨_,rfl⟩
 have d2:((a1 a:Int)+1).tdiv 2=(t0:Int):=by rw[Int.tdiv_eq_ediv_of_nonneg (by omega)];omega
 simp (maxSteps:=9^9) only[↓al,ak,simprocAttr,dy,bF,adC,adD,ra,d1,bT,f128,C4,gN,d2]
 rw[Vv]
 repeat (refine And.intro (by first|omega|(simp only[aI];omega)|(simp only[aI]at*;omega)|(simp only[List.length_append,List.length_cons,List.length_nil,List.length_set,b1];omega)) ?_)
 refine cB (fun s=>s.af 5= .own 16 0 n∧s.aA 16=some ⟨false,false,.ints .i64 (fA n (a7 a))⟩) ?_ ?_
 ·simp (maxSteps:=9^9) only[↓al,ak,simprocAttr,dy,bF,f128,C4,gN,d2,bT]
  refine⟨⟨a,rfl,by omega⟩,?_⟩
  repeat (refine And.intro (by first|omega|(simp only[aI];omega)|(simp only[aI]at*;omega)|(simp only[List.length_append,List.length_cons,List.length_nil,List.length_set,b1];omega)) ?_)
  refine eV (fun s=>∃(t:Nat) (ax:List Int),s.af 0= .d (.ints .i64 (au a))∧s.af 4= .own 14 0 n∧s.af 5= .own 16 0 n∧s.af 6= .own 18 0 n∧s.af 7= .d (.int .i64 (2*t - 2))∧
   s.aA 14=some ⟨false,false,.ints .i64 (fA n (a / 4^t - a7 (a / 4^t)*a7 (a / 4^t)))⟩∧s.aA 16=some ⟨false,false,.ints .i64 (fA n (a7 (a / 4^t)))⟩∧s.aA 18=some ⟨false,false,.ints .i64 ax⟩∧ax.length=n∧ch ax∧t≤t0)
   (fun s=>match s.af 7 with| .d (.int _ i)=>(i+2).toNat|_=>0) ?_ ?_
  ·refine⟨t0,List.replicate n 0,?_⟩
   have h0:a / 4^t0=0:=Nat.div_eq_of_lt (by
    have:=kG a
    refine Nat.lt_of_lt_of_le this ?_
    rw[show (4:Nat)=2^2 from rfl,←Nat.pow_mul]
    exact Nat.pow_le_pow_right (by decide) (by omega))
   rw[h0,M4,Nat.zero_sub,amh]
   simp (maxSteps:=9^9) only[↓al,ak,simprocAttr,dy,bF,Int.toNat_natCast,List.length_replicate]
   (repeat' apply And.intro)<;>first|with_reducible rfl|omega|(simp only[List.length_append,List.length_cons,List.length_nil,List.length_set,List.length_replicate];omega)|(simp only[aI];omega)|(simp only[List.length_set];done)|(rw[Int.toNat_of_nonneg (by omega)];done)|exact(fun x aj=>by rw[List.eq_of_mem_replicate aj];decide)|exact(by congr 3;omega)
  ·rintro s ⟨t,ax,h0,aK,aG,aM,aS,KZ,iO,Vw,z6,azB,ae⟩
   by_cases uK:(2*(t:Int) - 2)≥0
   ·obtain⟨u,rfl⟩:∃u,t=u+1:=⟨t - 1,by omega⟩
    have b8:2*((u+1:Nat):Int) - 2=((2*u:Nat):Int):=by omega
    rw[b8]at aS uK
    obtain⟨d,aD⟩:∃d,d=a / 4^u % 4:=⟨_,rfl⟩
    obtain⟨N,cg⟩:∃N,N=a / 4^(u+1):=⟨_,rfl⟩
    have NX:a / 4^u=4*N+d:=by rw[cg,aD];exact ami a u
    have ag6:d<4:=by omega
    obtain⟨ct,db,fc⟩:=anK N d ag6
    have q4:=anM N
    have avt:a7 N≤a7 a:=by
     have:N≤a:=by rw[cg];exact Nat.div_le_self _ _
     rcases Nat.lt_or_ge (a7 a) (a7 N)with bl|sN
     ·exfalso
      have bh:=(oL N).1
      have bB:=(oL a).2
      have:=Nat.mul_le_mul (show a7 a+1≤a7 N from bl) (show a7 a+1≤a7 N from bl)
      omega
     ·exact sN
    rw[←cg]at KZ iO
    obtain⟨L,dz⟩:∃L,L=N - a7 N*a7 N:=⟨_,rfl⟩
    rw[←dz]at KZ ct db fc q4
    obtain⟨R,eC⟩:∃R,R=a7 N:=⟨_,rfl⟩
    rw[←eC]at iO ct db avt q4
    have v1:val (fA n L)=L:=Et (by omega)
    have v2:val (fA n R)=R:=Et (by omega)
    have Au:val (fA n (L*4+d))=L*4+d:=Et (by omega)
    have v4:val (fA n (R*4+1))=R*4+1:=Et (by omega)
    have f1:2*u / 24<(au a).length:=by omega
    have f2:((2*u:Nat):Int).tdiv 24=((2*u / 24:Nat):Int):=rfl
    have f3:((2*u:Nat):Int).tmod 24=((2*u % 24:Nat):Int):=rfl
    have f4:2*u % 24≤64:=by omega
    have f5:iH .i64 (((au a).getD (2*u / 24) 0).fdiv (2^(2*u % 24))) 3=(d:Int):=by
     rw[alg,XX,show (2:Int)^(2*u % 24)=((2^(2*u % 24):Nat):Int)by rw[Int.natCast_pow];rfl,Int.fdiv_eq_ediv_of_nonneg _ (Int.natCast_nonneg _),aD,←anL]
     rfl
    have f6:((2*u / 24:Nat):Int)<(au a).length:=by omega
    have f7:(fA n R).take n=fA n R:=List.take_of_length_le (by rw[fx];omega)
    have f8:ax.drop n=[]:=List.drop_of_length_le (by omega)
    by_cases LM:R*4+1≤L*4+d
    ·simp (maxSteps:=9^9) only[↓al,ak,simprocAttr,dy,bF,h0,aK,aG,aM,aS,KZ,iO,Vw,uK,f1,f2,f3,f4,f5,f6,Int.toNat_natCast,aed,sy,aee,q9,fx,v1,v2,Au,v4,LM,z6,f7,f8,List.take_zero,List.nil_append,List.append_nil]
     have sM:=ct.1 (by omega)
     rw[if_pos (by omega)]at fc
     rw[sM]at fc
     have Sv:a7 (a / 4^u)=R*2+1:=by rw[NX,sM];omega
     have SS:a / 4^u - a7 (a / 4^u)*a7 (a / 4^u)=L*4+d - (R*4+1):=by rw[NX,sM,fc];omega
     repeat (refine And.intro (by first|omega|(simp only[aI];omega)|(simp only[aI]at*;omega)|(simp only[List.length_append,List.length_cons,List.length_nil,List.length_set,b1];omega)) ?_)
     refine⟨⟨fA n L,2,d,by rw[fx];rfl,rfl,qS _ _,by rw[fx];omega,by omega,by omega,by rw[v1,fx];omega⟩,
      ⟨fA n R,2,1,by rw[fx];rfl,rfl,qS _ _,by rw[fx];omega,by omega,by omega,by rw[v2,fx];omega⟩,
      ⟨fA n (L*4+d),fA n (R*4+1),by rw[fx,fx],rfl,qS _ _,qS _ _,by rw[fx];omega,by rw[fx,fx]⟩,
      ⟨fA n R,1,1,by rw[fx];rfl,rfl,qS _ _,by rw[fx];omega,by omega,by omega,by rw[v2,fx];omega⟩,?_⟩
     repeat (refine And.intro (by first|omega|(simp only[aI];omega)|(simp only[aI]at*;omega)|(simp only[List.length_append,List.length_cons,List.length_nil,List.length_set,b1];omega)) ?_)
     refine⟨⟨u,fA n (R*4+1),by omega,by rw[SS],by rw[Sv],rfl,fx _ _,qS _ _,by omega⟩,by omega⟩
    ·simp (maxSteps:=9^9) only[↓al,ak,simprocAttr,dy,bF,h0,aK,aG,aM,aS,KZ,iO,Vw,uK,f1,f2,f3,f4,f5,f6,Int.toNat_natCast,aed,sy,aee,q9,fx,v1,v2,Au,v4,LM,z6,f7,f8,List.take_zero,List.nil_append,List.append_nil]
     have sM:=db.1 (by omega)
     rw[if_neg (by omega)]at fc
     rw[sM]at fc
     have Sv:a7 (a / 4^u)=R*2:=by rw[NX,sM];omega
     have SS:a / 4^u - a7 (a / 4^u)*a7 (a / 4^u)=L*4+d:=by rw[NX,sM,fc];omega
     repeat (refine And.intro (by first|omega|(simp only[aI];omega)|(simp only[aI]at*;omega)|(simp only[List.length_append,List.length_cons,List.length_nil,List.length_set,b1];omega)) ?_)
     refine⟨⟨fA n L,2,d,by rw[fx];rfl,rfl,qS _ _,by rw[fx];omega,by omega,by omega,by rw[v1,fx];omega⟩,
      ⟨fA n R,2,1,by rw[fx];rfl,rfl,qS _ _,by rw[fx];omega,by omega,by omega,by rw[v2,fx];omega⟩,
      ⟨fA n (L*4+d),fA n (R*4+1),by rw[fx,fx],rfl,qS _ _,qS _ _,by rw[fx];omega,by rw[fx,fx]⟩,
      ⟨fA n R,1,0,by rw[fx];rfl,rfl,qS _ _,by rw[fx];omega,by omega,by omega,by rw[v2,fx];omega⟩,?_⟩
     repeat (refine And.intro (by first|omega|(simp only[aI];omega)|(simp only[aI]at*;omega)|(simp only[List.length_append,List.length_cons,List.length_nil,List.length_set,b1];omega)) ?_)
     refine⟨⟨u,fA n (R*4+1),by omega,by rw[SS],by rw[Sv],rfl,fx _ _,qS _ _,by omega⟩,by omega⟩
   ·simp (maxSteps:=9^9) only[↓al,ak,simprocAttr,dy,bF,h0,aK,aG,aM,aS,KZ,iO,Vw,uK]
    have:t=0:=by omega
    subst this
    rw[Nat.pow_zero,Nat.div_one]
 ·rintro s ⟨aG,iO⟩
  have ae:(fA n (a7 a)).take n=fA n (a7 a):=List.take_of_length_le (by rw[fx];omega)
  simp (maxSteps:=9^9) only[↓al,ak,simprocAttr,dy,bF,aG,iO,f163,yG,ki,fx,ae]
  repeat (refine And.intro (by first|omega|(simp only[aI];omega)|(simp only[aI]at*;omega)|(simp only[List.length_append,List.length_cons,List.length_nil,List.length_set,b1];omega)) ?_)
  refine⟨⟨_,rfl,qS _ _,by rw[fx];omega⟩,?_⟩
  rw[Et (by omega)]
def GU (p:Int→Bool) (xs:List Int):Int:=match xs.findIdx? p with
 |some i=>i
 |none=> -1
def B3 (x:Int):Bool:=x !=0
def C5 (x:Int):Bool:=decide (x<0)||decide (x>16777215)
theorem aaH {p:Int→Bool} {xs:List Int} {i:Nat} (hi:i<xs.length) (h:p (xs.getD i 0)=true) (ad:∀k,k<i→p (xs.getD k 0)=false):GU p xs=i:=by
 have:xs.findIdx? p=some i:=by
  rw[List.findIdx?_eq_some_iff_getElem]
  refine⟨hi,?_,fun j aF=> ?_⟩
  ·rw[List.getD_eq_getElem?_getD,List.getElem?_eq_getElem hi]at h;exact h
  ·have:=ad j aF
   rw[List.getD_eq_getElem?_getD,List.getElem?_eq_getElem (by omega)]at this
   simpa using this
 unfold GU;rw[this]
theorem Zs {p:Int→Bool} {xs:List Int} (ad:∀k,k<xs.length→p (xs.getD k 0)=false):GU p xs= -1:=by
 have:xs.findIdx? p=none:=by
  rw[List.findIdx?_eq_none_iff]
  intro x aj
  obtain⟨i,hi,rfl⟩:=List.mem_iff_getElem.1 aj
  have:=ad i hi
  rw[List.getD_eq_getElem?_getD,List.getElem?_eq_getElem hi]at this
  simpa using this
 unfold GU;rw[this]
def tV:br where
 pre:=fun ds=>∃x:Int,ds=[.int .i64 x]
 res:=fun ds=>match ds with
  |[.int _ x]=> .bool (x !=0)
  |_=> .nilp
theorem FN (Γ:Env) (ds:List D) (h:tV.pre ds):bK Γ adO adP ds fun d=>d=tV.res ds:=by
 obtain⟨x,rfl⟩:=h
 simp (maxSteps:=9^9) only[↓al,ak,simprocAttr,adO,adP,tV]
def sA:br where
 pre:=fun ds=>∃x:Int,ds=[.int .i64 x]
 res:=fun ds=>match ds with
  |[.int _ x]=> .bool (C5 x)
  |_=> .nilp
theorem FO (Γ:Env) (ds:List D) (h:sA.pre ds):bK Γ Tp Tq ds fun d=>d=sA.res ds:=by
 obtain⟨x,rfl⟩:=h
 by_cases c:x<0
 ·simp (maxSteps:=9^9) only[↓al,ak,simprocAttr,Tp,Tq,sA,C5,c]
 ·simp (maxSteps:=9^9) only[↓al,ak,simprocAttr,Tp,Tq,sA,C5,c]
def o1:br where
 pre:=fun ds=>∃xs:List Int,(ds=[.ints .i64 xs,.fn 170 [] []]∨ds=[.ints .i64 xs,.fn 159 [] []])∧xs.length≤100000
 res:=fun ds=>match ds with
  |[.ints _ xs,.fn g _ _]=> .int .i64 (GU (if g=170 then B3 else C5) xs)
  |_=> .nilp
theorem FP (Γ:Env) (f170:Γ.fn 170=some tV) (aef:Γ.mt 170=none) (f159:Γ.fn 159=some sA) (aeg:Γ.mt 159=none) (ds:List D) (h:o1.pre ds):bK Γ TK TL ds fun d=>d=o1.res ds:=by
 obtain⟨xs,rfl|rfl,hlen⟩:=h
 ·simp (maxSteps:=9^9) only[↓al,ak,simprocAttr,TK,TL,o1]
  refine cB (fun s=>∀k,k<xs.length→B3 (xs.getD k 0)=false) ?_ ?_
  ·simp (maxSteps:=9^9) only[↓al,ak,simprocAttr]
   refine eV (fun s=>∃i:Nat,s.af 0= .d (.ints .i64 xs)∧s.af 1= .d (.fn 170 [] [])∧s.af 7= .d (.int .i64 xs.length)∧s.af 8= .d (.int .i64 i)∧i≤xs.length∧∀k,k<i→B3 (xs.getD k 0)=false)
    (fun s=>match s.af 8 with| .d (.int _ n)=>xs.length - n.toNat|_=>0) ?_ ?_
   ·refine⟨0,?_⟩
    simp (maxSteps:=2000000) only[↓al,ak,↓reduceIte,reduceCtorEq,Nat.reduceEqDiff,Nat.reduceLeDiff,Nat.reduceSub,Nat.reduceAdd,Int.reduceToNat,Nat.reducePow,Int.reducePow,Int.reduceLE,Int.reduceLT,IntKind.bits]
    exact⟨rfl,Nat.zero_le _,fun k ad=>absurd ad (Nat.not_lt_zero _)⟩
   ·rintro s ⟨i,h0,h1,aS,bn,hi,ad⟩
    by_cases ci:(i:Int)<xs.length
    ·have aN:i<xs.length:=by omega
     cases aQ:(xs.getD i 0 !=0)with
     |true=>
      simp (maxSteps:=9^9) only[↓al,ak,simprocAttr,h0,h1,aS,bn,ci,aN,f170,aef,tV,Int.toNat_natCast,aQ]
      repeat (refine And.intro (by first|omega|(simp only[aI];omega)|(simp only[aI]at*;omega)|(simp only[List.length_append,List.length_cons,List.length_nil,List.length_set,b1];omega)) ?_)
      exact⟨⟨_,rfl⟩,by rw[aaH aN aQ ad]⟩
     |false=>
      simp (maxSteps:=9^9) only[↓al,ak,simprocAttr,h0,h1,aS,bn,ci,aN,f170,aef,tV,Int.toNat_natCast,aQ]
      repeat (refine And.intro (by first|omega|(simp only[aI];omega)|(simp only[aI]at*;omega)|(simp only[List.length_append,List.length_cons,List.length_nil,List.length_set,b1];omega)) ?_)
      refine⟨⟨_,rfl⟩,?_⟩
      repeat (refine And.intro (by first|omega|(simp only[aI];omega)|(simp only[aI]at*;omega)|(simp only[List.length_append,List.length_cons,List.length_nil,List.length_set,b1];omega)) ?_)
      refine⟨⟨i+1,by omega,by omega,fun k cE=> ?_⟩,by omega⟩
      by_cases e:k=i
      ·rw[e];exact aQ
      ·exact ad k (by omega)
    ·simp (maxSteps:=9^9) only[↓al,ak,simprocAttr,h0,h1,aS,bn,ci]
     exact fun k cE=>ad k (by omega)
  ·intro s aJ
   simp (maxSteps:=9^9) only[↓al,ak,simprocAttr,Zs aJ]
 ·simp (maxSteps:=9^9) only[↓al,ak,simprocAttr,TK,TL,o1]
  refine cB (fun s=>∀k,k<xs.length→C5 (xs.getD k 0)=false) ?_ ?_
  ·simp (maxSteps:=9^9) only[↓al,ak,simprocAttr]
   refine eV (fun s=>∃i:Nat,s.af 0= .d (.ints .i64 xs)∧s.af 1= .d (.fn 159 [] [])∧s.af 7= .d (.int .i64 xs.length)∧s.af 8= .d (.int .i64 i)∧i≤xs.length∧∀k,k<i→C5 (xs.getD k 0)=false)
    (fun s=>match s.af 8 with| .d (.int _ n)=>xs.length - n.toNat|_=>0) ?_ ?_
   ·refine⟨0,?_⟩
    simp (maxSteps:=2000000) only[↓al,ak,↓reduceIte,reduceCtorEq,Nat.reduceEqDiff,Nat.reduceLeDiff,Nat.reduceSub,Nat.reduceAdd,Int.reduceToNat,Nat.reducePow,Int.reducePow,Int.reduceLE,Int.reduceLT,IntKind.bits]
    exact⟨rfl,Nat.zero_le _,fun k ad=>absurd ad (Nat.not_lt_zero _)⟩
   ·rintro s ⟨i,h0,h1,aS,bn,hi,ad⟩
    by_cases ci:(i:Int)<xs.length
    ·have aN:i<xs.length:=by omega
     cases aQ:C5 (xs.getD i 0)with
     |true=>
      simp (maxSteps:=9^9) only[↓al,ak,simprocAttr,h0,h1,aS,bn,ci,aN,f159,aeg,sA,Int.toNat_natCast,aQ]
      repeat (refine And.intro (by first|omega|(simp only[aI];omega)|(simp only[aI]at*;omega)|(simp only[List.length_append,List.length_cons,List.length_nil,List.length_set,b1];omega)) ?_)
      exact⟨⟨_,rfl⟩,by rw[aaH aN aQ ad]⟩
     |false=>
      simp (maxSteps:=9^9) only[↓al,ak,simprocAttr,h0,h1,aS,bn,ci,aN,f159,aeg,sA,Int.toNat_natCast,aQ]
      repeat (refine And.intro (by first|omega|(simp only[aI];omega)|(simp only[aI]at*;omega)|(simp only[List.length_append,List.length_cons,List.length_nil,List.length_set,b1];omega)) ?_)
      refine⟨⟨_,rfl⟩,?_⟩
      repeat (refine And.intro (by first|omega|(simp only[aI];omega)|(simp only[aI]at*;omega)|(simp only[List.length_append,List.length_cons,List.length_nil,List.length_set,b1];omega)) ?_)
      refine⟨⟨i+1,by omega,by omega,fun k cE=> ?_⟩,by omega⟩
      by_cases e:k=i
      ·rw[e];exact aQ
      ·exact ad k (by omega)
    ·simp (maxSteps:=9^9) only[↓al,ak,simprocAttr,h0,h1,aS,bn,ci]
     exact fun k cE=>ad k (by omega)
  ·intro s aJ
   simp (maxSteps:=9^9) only[↓al,ak,simprocAttr,Zs aJ]
def ll:br where
 pre:=fun ds=>∃x:Int,ds=[.int .u64 x]∧0<x∧x<18446744073709551616
 res:=fun ds=>match ds with
  |[.int _ x]=> .int .i64 (b2 x.toNat)
  |_=> .nilp
theorem wrap_u64 {x:Int} (h0:0≤x) (h1:x<18446744073709551616):IntKind.u64.wrap x=x:=by
 unfold IntKind.wrap
 simp only[show IntKind.u64.bits=64 from rfl,show IntKind.u64.signed=false from rfl,Bool.false_and,Bool.false_eq_true,if_false]
 omega
def e9:br where
 pre:=fun ds=>∃(b:Bool) (m:Nat) (e:Int),ds=[.bool b,aZ m,.int .i64 e]∧(au m).length≤20000∧-1000000≤e∧e≤1000000
 res:=fun ds=>match ds with
  |[.bool b,.ints _ xs,.int _ e]=>aV (mk b (val xs) e)
  |_=> .nilp
theorem FQ (Γ:Env) (f169:Γ.fn 169=some o1) (aeh:Γ.mt 169=none) (f171:Γ.fn 171=some ll) (ath:Γ.mt 171=none)
 (f143:Γ.fn 143=some il) (TS:Γ.mt 143=none) (ds:List D) (h:e9.pre ds):bK Γ Tj Tk ds fun d=>d=e9.res ds:=by
 obtain⟨b,m,e,rfl,aH,KC,Dy⟩:=h
 have Qb:o1.own=false:=rfl
 have pi:o1.pre [.ints .i64 (au m),.fn 170 [] []]:=⟨au m,by first|exact rfl|exact .inl rfl,by omega⟩
 by_cases h0:m=0
 ·have az:o1.res [.ints .i64 (au m),.fn 170 [] []]= .int .i64 (-1):=by
   rw[h0,hv];rfl
  have c:(-1:Int)<0:=by decide
  have hm:mk b m e=⟨false,0,0⟩:=by unfold mk;rw[if_pos h0]
  simp (maxSteps:=9^9) only[↓al,ak,simprocAttr,Tj,Tk,e9,aV,bT,f169,aeh,Qb,pi,az,c,hm,hv]
 ·obtain⟨i,hi⟩:∃i,(au m).findIdx? B3=some i:=by
   cases hf:(au m).findIdx? B3 with
   |some i=>exact⟨i,rfl⟩
   |none=>
    exfalso
    rw[List.findIdx?_eq_none_iff]at hf
    have aQ:=x2 h0
    have aH:=Qm h0
    have:=hf _ (List.getElem_mem (show (au m).length - 1<(au m).length by omega))
    rw[List.getD_eq_getElem?_getD,List.getElem?_eq_getElem (by omega)]at aH
    simp only[B3,bne_eq_false_iff_eq]at this
    exact aH this
  obtain⟨ct,db,fc⟩:=List.findIdx?_eq_some_iff_getElem.1 hi
  have dP:(au m).getD i 0≠0:=by
   rw[List.getD_eq_getElem?_getD,List.getElem?_eq_getElem ct]
   simpa [B3]using db
  have fw:∀k,k<i→(au m).getD k 0=0:=fun k ad=>by
   have:=fc k ad
   rw[List.getD_eq_getElem?_getD,List.getElem?_eq_getElem (by omega)]
   simpa [B3]using this
  have avo:=anO ct fw dP
  have aD:=(c4 m).getD i
  have azh:=zM (n:=((au m).getD i 0).toNat) (k:=24) (by omega) (by have:=aD.2;omega)
  have az:o1.res [.ints .i64 (au m),.fn 170 [] []]= .int .i64 i:=by
   simp only[o1,if_pos,GU,hi]
  have c:¬(i:Int)<0:=by omega
  have hw:=wrap_u64 (x:=(au m).getD i 0) aD.1 (by omega)
  have aN:(i:Int)*24+(b2 ((au m).getD i 0).toNat:Int)=(b2 m:Int):=by omega
  simp (maxSteps:=9^9) only[↓al,ak,simprocAttr,Tj,Tk,e9,aV,bT,f169,aeh,Qb,pi,az,c,ct,hw,aN,f171,ath,ll,f143,TS,il,Int.toNat_natCast]
  repeat (refine And.intro (by first|omega|(simp only[aI];omega)|(simp only[aI]at*;omega)|(simp only[List.length_append,List.length_cons,List.length_nil,List.length_set,b1];omega)) ?_)
  refine⟨⟨_,rfl,by omega,by omega⟩,?_⟩
  have sO:=x3 m
  have azC:=zM h0 (kG m)
  repeat (refine And.intro (by first|omega|(simp only[aI];omega)|(simp only[aI]at*;omega)|(simp only[List.length_append,List.length_cons,List.length_nil,List.length_set,b1];omega)) ?_)
  refine⟨⟨_,_,rfl,c4 m,aH,by simp only[aI];omega⟩,?_⟩
  repeat (refine And.intro (by first|omega|(simp only[aI];omega)|(simp only[aI]at*;omega)|(simp only[List.length_append,List.length_cons,List.length_nil,List.length_set,b1];omega)) ?_)
  unfold mk
  rw[if_neg h0]
def mJ:br where
 pre:=fun ds=>∃x:a8,ds=[aV x]∧dj x
 res:=fun ds=>match ds with
  |[p]=>aV (eQ (fj p))
  |_=> .nilp
theorem GV (Γ:Env) (f135:Γ.fn 135=some e9) (rb:Γ.mt 135=none) (ds:List D) (h:mJ.pre ds):bK Γ agq agr ds fun d=>d=mJ.res ds:=by
 obtain⟨x,rfl,aj⟩:=h
 have he:=mH aj
 have aH:=l1 aj
 have hf:=Zo aj.1
 simp (maxSteps:=9^9) only[↓al,ak,simprocAttr,agq,agr,mJ,aV,ck,f135,rb,e9,bT,hf]
 exact⟨_,_,_,rfl,by omega,by omega,by omega⟩
def hs:br where
 pre:=fun ds=>∃(x:a8) (k:Int),ds=[aV x,.int .i64 k]∧dj x∧-100000≤k∧k≤100000
 res:=fun ds=>match ds with
  |[p,.int _ k]=>aV (gi (fj p) k)
  |_=> .nilp
theorem GW (Γ:Env) (f135:Γ.fn 135=some e9) (rb:Γ.mt 135=none) (ds:List D) (h:hs.pre ds):bK Γ agR agS ds fun d=>d=hs.res ds:=by
 obtain⟨x,k,rfl,aj,Kw,vI⟩:=h
 have he:=mH aj
 have aH:=l1 aj
 simp (maxSteps:=9^9) only[↓al,ak,simprocAttr,agR,agS,hs,aV,ck,gi,f135,rb,e9,bT]
 repeat (refine And.intro (by first|omega|(simp only[aI];omega)|(simp only[aI]at*;omega)|(simp only[List.length_append,List.length_cons,List.length_nil,List.length_set,b1];omega)) ?_)
 exact⟨x.neg,x.m,x.e+k,rfl,by omega,by omega,by omega⟩
def kM:br where
 pre:=fun ds=>∃(b:Bool) (xs:List Int) (e:Int),ds=[.agg [.bool b,.ints .i64 xs,.int .i64 e]]
 res:=fun ds=>match ds with
  |[.agg [.bool _,.ints _ xs,.int _ _]]=> .bool ((xs.length:Int)==0)
  |_=> .nilp
theorem FR (Γ:Env) (ds:List D) (h:kM.pre ds):bK Γ adA adB ds fun d=>d=kM.res ds:=by
 obtain⟨b,xs,e,rfl⟩:=h
 simp (maxSteps:=9^9) only[↓al,ak,simprocAttr,adA,adB,kM]
theorem RA (x:a8):kM.res [.agg [.bool x.neg,.ints .i64 (au x.m),.int .i64 x.e]]= .bool (decide (x.m=0)):=by
 show D.bool (((au x.m).length:Int)==0)=_
 by_cases h0:x.m=0
 ·rw[KS h0,decide_eq_true h0]
 ·rw[B0 h0,decide_eq_false h0]
def vq:br where
 pre:=fun ds=>∃(x:a8) (k:Int),ds=[aV x,.int .i64 k]∧dj x∧-50000≤k∧k≤50000
 res:=fun ds=>match ds with
  |[p,.int _ k]=>aZ ((fj p).m*2^((fj p).e - k).toNat)
  |_=> .nilp
theorem FT (Γ:Env) (f129:Γ.fn 129=some hp) (OA:Γ.mt 129=none) (ds:List D) (h:vq.pre ds):bK Γ adG adH ds fun d=>d=vq.res ds:=by
 obtain⟨x,k,rfl,aj,Kw,vI⟩:=h
 have he:=mH aj
 have aH:=l1 aj
 simp (maxSteps:=9^9) only[↓al,ak,simprocAttr,adG,adH,vq,aV,ck,f129,OA,hp,bT]
 repeat (refine And.intro (by first|omega|(simp only[aI];omega)|(simp only[aI]at*;omega)|(simp only[List.length_append,List.length_cons,List.length_nil,List.length_set,b1];omega)) ?_)
 exact⟨_,_,rfl,c4 _,by omega,by omega⟩
def re:br where
 pre:=fun ds=>∃x y:a8,ds=[aV x,aV y]∧dj x∧dj y
 res:=fun ds=>match ds with
  |[p,q]=>aV (cV (fj p) (fj q))
  |_=> .nilp
theorem FU (Γ:Env) (f135:Γ.fn 135=some e9) (rb:Γ.mt 135=none) (f132:Γ.fn 132=some o0) (OB:Γ.mt 132=none) (ds:List D) (h:re.pre ds):bK Γ ac2 ac3 ds fun d=>d=re.res ds:=by
 obtain⟨x,y,rfl,aj,hy⟩:=h
 have ex:=mH aj
 have zi:=mH hy
 have c7:=l1 aj
 have gW:=l1 hy
 have ow:=Cs x.m y.m
 have aA:=sg aj
 have Wu:=sg hy
 have vM:=A1 (n:=x.m*y.m) (by omega)
 simp (maxSteps:=9^9) only[↓al,ak,simprocAttr,ac2,ac3,re,aV,ck,cV,f135,rb,e9,f132,OB,o0,bT]
 refine⟨⟨_,_,rfl,c4 _,c4 _,by omega,by omega⟩,?_⟩
 repeat (refine And.intro (by first|omega|(simp only[aI];omega)|(simp only[aI]at*;omega)|(simp only[List.length_append,List.length_cons,List.length_nil,List.length_set,b1];omega)) ?_)
 exact⟨_,_,_,rfl,vM,by omega,by omega⟩
end RV.Dr
namespace RV.Dr
open Go Go.RowKit RV
set_option linter.unusedSimpArgs false
set_option linter.unusedVariables false
set_option maxRecDepth 100000
set_option maxHeartbeats 4000000
theorem apk (x A j v:Int) (w:World) (h0:(x==0)=false) (hA:bits BinOp.and IntKind.u64 x (IntKind.u64.wrap (-x))=A) (aF:IntKind.u64.wrap (A*285870213051353865) / 288230376151711744=j)
 (avu:0≤j) (GR:j<64) (ay:w.cell? { block:=2,off:=j.toNat } =some (.int .u8 v)) (aB:IntKind.i64.wrap v=v):
 Calls Go.Proofs.Tryz.prog 194 #[.int .u64 x] w fun e w'=>e= .returned (.int .i64 v)∧w'=w:=by
 have azD:(0≤j∧j<64)=True:=by simp[avu,GR]
 go_enter Go.Proofs.Tryz.func194,Go.Proofs.Tryz.ntmps194
 go_wp2
 go_ret
 exact⟨rfl,rfl⟩
theorem amj {o s:Nat} (bz:o % 2=1) (aE:o<2^s):o &&& (2^s - o)=1:=by
 have Jz:0<s:=by
  rcases Nat.eq_zero_or_pos s with h|h
  ·subst h;simp at aE;omega
  ·exact h
 have e:2^s - o=2^s - ((o - 1)+1):=by omega
 refine Nat.eq_of_testBit_eq fun i=> ?_
 rw[Nat.testBit_and,e,Nat.testBit_two_pow_sub_succ (by omega)]
 cases i with
 |zero=>
  have h1:o.testBit 0=true:=by rw[Nat.testBit_zero];simp[bz]
  have h2:(o - 1).testBit 0=false:=by rw[Nat.testBit_zero];simp;omega
  rw[h1,h2]
  simp[Jz]
 |succ i=>
  have h1:o.testBit (i+1)=(o / 2).testBit i:=Nat.testBit_succ ..
  have h2:(o - 1).testBit (i+1)=(o / 2).testBit i:=by rw[Nat.testBit_succ,show (o - 1) / 2=o / 2 by omega]
  have aq:(1:Nat).testBit (i+1)=false:=by rw[Nat.testBit_succ];simp
  rw[h1,h2,aq]
  cases (o / 2).testBit i<;>simp
theorem apl {x:Nat} (h0:x≠0) (aj:x<2^64):x &&& (2^64 - x)=2^b2 x:=by
 have aE:=jN h0
 have ae:=zM h0 aj
 obtain⟨o,bz⟩:∃o,o=x / 2^b2 x:=⟨_,rfl⟩
 rw[←bz]at aE
 have aQ:(2:Nat)^64=2^(64 - b2 x)*2^b2 x:=by rw[←Nat.pow_add];congr 1;omega
 have bl:o<2^(64 - b2 x):=by
  rw[←aE.1,aQ]at aj
  exact Nat.lt_of_mul_lt_mul_right aj
 have e:2^64 - x=(2^(64 - b2 x) - o)*2^b2 x:=by rw[Nat.sub_mul,←aQ,aE.1]
 have aX:x &&& (2^64 - x)=(o*2^b2 x) &&& ((2^(64 - b2 x) - o)*2^b2 x):=by rw[aE.1,e]
 rw[aX,←Nat.shiftLeft_eq,←Nat.shiftLeft_eq,←Nat.shiftLeft_and_distrib,amj aE.2 bl,Nat.shiftLeft_eq,Nat.one_mul]
def iP (t:Nat):Nat:=(2^t*285870213051353865 % 18446744073709551616) / 288230376151711744
theorem CP (t:Nat):iP t<64:=by unfold iP;omega
def sB (B:Mem):Prop:=∀t:Nat,t<64→B (cellAt 2 (iP t))=some (.int .u8 t)
theorem abk (n:Int):IntKind.u64.wrap n=n % 18446744073709551616:=by
 unfold IntKind.wrap
 simp[show IntKind.u64.bits=64 from rfl,show IntKind.u64.signed=false from rfl]
def yH:br where
 pre:=ll.pre
 res:=ll.res
theorem EZ {B:Mem} (ai:sB B):l8 Go.Proofs.Tryz.prog B 194 yH:=by
 refine⟨⟨Go.Proofs.Tryz.f194,by kernel_rfl,by decide,by decide⟩,?_⟩
 rintro ds ⟨x,rfl,h0,h1⟩ w rd vs avv avw ar
 simp only[bP,bj]at ar
 obtain⟨v,us,aB,rfl,rfl⟩:=ar
 have BQ:vs= #[.int .u64 x]:=by rw[←Array.toList_inj];exact aB
 subst BQ
 obtain⟨n,rfl⟩:∃n:Nat,x=n:=⟨x.toNat,by omega⟩
 have eS:n≠0:=by omega
 have kT:n<2^64:=by omega
 have ae:=zM eS kT
 have hw:IntKind.u64.wrap (-(n:Int))=((2^64 - n:Nat):Int):=by rw[abk];omega
 have hA:bits BinOp.and IntKind.u64 (n:Int) (IntKind.u64.wrap (-(n:Int)))=((2^b2 n:Nat):Int):=by
  rw[hw,bits_and_u64_nat n (2^64 - n) kT (by omega),apl eS kT]
 have aF:IntKind.u64.wrap (((2^b2 n:Nat):Int)*285870213051353865) / 288230376151711744=((iP (b2 n):Nat):Int):=by
  rw[abk]
  unfold iP
  generalize 2^b2 n=p
  omega
 have fr:w.cell? { block:=2,off:=((iP (b2 n):Nat):Int).toNat } =some (.int .u8 ((b2 n:Nat):Int)):=by
  rw[Int.toNat_natCast]
  exact avw _ _ (avv _ _ (ai _ ae))
 have yY:IntKind.i64.wrap ((b2 n:Nat):Int)=((b2 n:Nat):Int):=wrap_small (by omega)
 have avx:((n:Int)==0)=false:=by simpa using eS
 refine(apk n _ _ _ w avx hA aF (by omega) (by have:=CP (b2 n);omega) fr yY).mono ?_
 rintro e w' ⟨rfl,rfl⟩
 refine⟨_,rfl,Below.refl _ _,fun _=> ?_,fun h=>by cases h⟩
 simp only[bj,yH,ll,Int.toNat_natCast]
theorem FV (Γ:Env) (f194:Γ.fn 194=some yH) (ati:Γ.mt 194=none) (ds:List D) (h:ll.pre ds):bK Γ ab0 ab1 ds fun d=>d=ll.res ds:=by
 obtain⟨x,rfl,h0,h1⟩:=h
 simp (maxSteps:=9^9) only[↓al,ak,simprocAttr,ab0,ab1,ll,f194,ati,yH]
 exact⟨x,rfl,h0,h1⟩
end RV.Dr
namespace RV.Dr
open Go RV
set_option linter.unusedSimpArgs false
set_option linter.unusedVariables false
set_option maxRecDepth 100000
set_option maxHeartbeats 4000000
def hS (K:Int) (Q:Nat):Nat:=(K % (2^Q:Nat)).toNat
def py (K:Int) (Q:Nat):Nat:=hS K Q / 2^b2 (hS K Q)
def pz (K:Int) (Q:Nat):Nat:=if hS K Q=0 then 0 else Q - b2 (hS K Q)
def cd (K Q:Int):D:= .agg [.int .i64 K,.int .i64 Q]
theorem NY (K:Int) (Q:Nat):hS K Q<2^Q:=by
 have:=Int.emod_lt_of_pos K (show (0:Int)<(2^Q:Nat)by exact_mod_cast Nat.two_pow_pos Q)
 have:=Int.emod_nonneg K (show ((2^Q:Nat):Int)≠0 by have:=Nat.two_pow_pos Q;omega)
 unfold hS
 omega
theorem RY (K:Int) (Q:Nat):K % (2^Q:Nat)=(hS K Q:Int):=by
 have:=Int.emod_nonneg K (show ((2^Q:Nat):Int)≠0 by have:=Nat.two_pow_pos Q;omega)
 unfold hS
 omega
theorem abl {K:Int} {Q:Nat} (h:hS K Q≠0):b2 (hS K Q)<Q:=zM h (NY K Q)
theorem abm {Q:Nat} (h:Q≤60):2^Q≤1152921504606846976:=Nat.pow_le_pow_right (n:=2) (by decide) h
def an (K:Int) (Q:Nat):Nat:=((K*(2^(60 - Q):Nat)) % (1152921504606846976:Int)).toNat
def b5 (a:Nat):Nat:=a / 2^b2 a
def a0 (a:Nat):Nat:=if a=0 then 0 else 60 - b2 a
def jl (a:Nat):D:=cd (b5 a) (a0 a)
theorem ft (K:Int) (Q:Nat):an K Q<1152921504606846976:=by unfold an;omega
theorem asp (K:Int) {Q:Nat} (h:Q≤60):an K Q=hS K Q*2^(60 - Q):=by
 have e:(1152921504606846976:Int)=(2^Q:Nat)*(2^(60 - Q):Nat):=by
  rw[←Int.natCast_mul,←Nat.pow_add,show Q+(60 - Q)=60 by omega];decide
 unfold an
 rw[e,Int.mul_comm K,Int.mul_comm ((2^Q:Nat):Int),Int.mul_emod_mul_of_pos _ _ (by have:=Nat.two_pow_pos (60 - Q);omega),RY,Int.mul_comm,←Int.natCast_mul,Int.toNat_natCast]
theorem SU (K:Int) {Q:Nat} (h:Q≤60):py K Q=b5 (an K Q)∧pz K Q=a0 (an K Q):=by
 rw[asp K h]
 unfold py pz b5 a0
 by_cases h0:hS K Q=0
 ·rw[h0];exact⟨by simp,by simp⟩
 ·have aQ:=Nat.two_pow_pos (60 - Q)
  have h1:hS K Q*2^(60 - Q)≠0:=Nat.ne_of_gt (Nat.mul_pos (Nat.pos_of_ne_zero h0) aQ)
  have h2:=abl h0
  rw[if_neg h0,if_neg h1,Nat.mul_comm,QU h0]
  refine⟨?_,by omega⟩
  rw[Nat.pow_add,Nat.mul_div_mul_left _ _ aQ]
theorem abn (K:Int) {Q:Nat} (h:Q≤60):cd (py K Q) (pz K Q)=jl (an K Q):=by rw[(SU K h).1,(SU K h).2];rfl
theorem yq:b5 0=0∧a0 0=0:=⟨by unfold b5;exact Nat.zero_div _,if_pos rfl⟩
theorem OC {a:Nat} (h0:a≠0) (h:a<1152921504606846976):b2 a<60:=zM (k:=60) h0 h
theorem Bh (a:Nat):a0 a≤60:=by unfold a0;split<;>omega
theorem Bi {a:Nat} (h:a<1152921504606846976):b5 a*2^(60 - a0 a)=a:=by
 by_cases h0:a=0
 ·subst h0;rw[yq.1,Nat.zero_mul]
 ·have h1:=OC h0 h
  unfold b5 a0
  rw[if_neg h0,show 60 - (60 - b2 a)=b2 a by omega]
  exact(jN h0).1
theorem NZ {a:Nat} (h:a<1152921504606846976):b5 a<1152921504606846976:=Nat.lt_of_le_of_lt (Nat.div_le_self _ _) h
theorem Ja (k q:Nat):an (k:Int) q=k*2^(60 - q) % 1152921504606846976:=by unfold an;omega
theorem kj {a:Nat} (h:a<1152921504606846976):an (b5 a) (a0 a)=a:=by rw[Ja,Bi h];exact Nat.mod_eq_of_lt h
theorem aaI (K:Int) (Q:Nat):an (-K) Q=(1152921504606846976 - an K Q) % 1152921504606846976:=by unfold an;rw[Int.neg_mul];omega
theorem aaJ (K L:Int) (Q:Nat):an (K+L) Q=(an K Q+an L Q) % 1152921504606846976:=by unfold an;rw[Int.add_mul];omega
theorem aaK (K:Int) {Q q:Nat} (h1:Q≤q) (h2:q≤60):an (K*(2^(q - Q):Nat)) q=an K Q:=by
 unfold an
 rw[Int.mul_assoc,←Int.natCast_mul,←Nat.pow_add,show q - Q+(60 - q)=60 - Q by omega]
theorem EO {a q:Nat} (h:a<1152921504606846976) (h1:a0 a≤q) (h2:q≤60):b5 a*2^(q - a0 a)=a / 2^(60 - q):=by
 refine(Nat.div_eq_of_eq_mul_left (Nat.two_pow_pos _) ?_).symm
 rw[Nat.mul_assoc,←Nat.pow_add,show q - a0 a+(60 - q)=60 - a0 a by omega,Bi h]
theorem CU (K:Int) {Q:Nat} (h:Q≤60):a0 (an K Q)≤Q:=by rw[←(SU K h).2];unfold pz;split<;>omega
theorem bC {Γ:Env} {a b:a3} {Q:fi→St→Prop} {σ:St} (P:St→Prop) (a6:cb Γ a (fun e s=>match e with| .normal=>P s|e=>Q e s) σ) (aw:∀s,P s→cb Γ b Q s):cb Γ (.seq a b) Q σ:=cB (a:=a) (b:=b) P a6 aw
def mc:br where
 pre:=fun ds=>∃(K:Int) (Q:Nat),ds=[cd K Q]∧Q≤60
 res:=fun ds=>match ds with
  |[.agg [.int _ K,.int _ Q]]=>jl (an K Q.toNat)
  |_=> .nilp
theorem FW (Γ:Env) (atj:Γ.has 171 ll) (ds:List D) (h:mc.pre ds):bK Γ Tt Tv ds fun d=>d=mc.res ds:=by
 obtain⟨K,Q,rfl,cw⟩:=h
 have aQ:=abm cw
 have h0:=Nat.two_pow_pos Q
 have CY:Q≤64:=by omega
 have yY:IntKind.u64.wrap (hS K Q:Int)=(hS K Q:Int):=wrap_u64 (by omega) (by have:=NY K Q;omega)
 have mI:(1:Int)*2^Q=((2^Q:Nat):Int):=by rw[Int.one_mul];exact_mod_cast rfl
 have yU:((2^Q:Nat):Int) - 1=((2^Q - 1:Nat):Int):=by omega
 have hand:iH .i64 K ((2^Q - 1:Nat):Int)=(hS K Q:Int):=by rw[Ev Q (by omega),RY]
 have bl:=NY K Q
 have bO:mc.res [cd K Q]=cd (py K Q) (pz K Q):=by simp only[mc,cd,Int.toNat_natCast];exact(abn K cw).symm
 rw[bO]
 by_cases aJ:hS K Q=0
 ·have aN:py K Q=0:=by unfold py;rw[aJ];exact Nat.zero_div _
  have aX:pz K Q=0:=by unfold pz;rw[if_pos aJ]
  have asq:iH .i64 K ((2^Q - 1:Nat):Int)=0:=by rw[hand,aJ];rfl
  rw[gx]
  unfold Tt Tv
  refine bC (fun s=>s.af 1= .box 1 0∧s.aA 1=some ⟨false,false,.cells [.d (.int .i64 K),.d (.int .i64 Q)]⟩∧s.af 2= .box 2 0∧s.aA 2=some ⟨false,false,.cells [.d (.int .i64 0),.d (.int .i64 0)]⟩) ?_ ?_
  ·simp (maxSteps:=9^9) only[↓al,ak,simprocAttr,cd]
  rintro s ⟨h1,bM,h2,aW⟩
  refine bC (fun s=>s.af 1= .box 1 0∧s.aA 1=some ⟨false,false,.cells [.d (.int .i64 0),.d (.int .i64 Q)]⟩∧s.af 2= .box 2 0∧s.aA 2=some ⟨false,false,.cells [.d (.int .i64 0),.d (.int .i64 0)]⟩) ?_ ?_
  ·simp (maxSteps:=9^9) only[↓al,ak,simprocAttr,h1,bM,h2,aW,Int.toNat_natCast,CY,mI,yU,asq]
   ((repeat' apply And.intro)<;>first|assumption|with_reducible rfl|omega|(simp only[aI];omega)|exact⟨_,rfl⟩|exact⟨_,_,_,rfl⟩|exact⟨_,_,_,_,_,_,rfl⟩)
  rintro s ⟨h1,bM,h2,aW⟩
  have Vx:((py K Q:Nat):Int)=0:=by rw[aN];rfl
  have Vy:((pz K Q:Nat):Int)=0:=by rw[aX];rfl
  simp (maxSteps:=9^9) only[↓al,ak,simprocAttr,h1,bM,h2,aW,Vx,Vy,cd]
 ·have bp:=abl aJ
  have aw:((hS K Q:Int)==0)=false:=beq_false_of_ne (by omega)
  have atk:b2 (hS K Q)≤64:=by omega
  have UB:((hS K Q:Nat):Int).fdiv (2^b2 (hS K Q))=(py K Q:Int):=by
   rw[Int.fdiv_eq_ediv_of_nonneg _ (Int.le_of_lt (Int.pow_pos (by decide)))]
   unfold py
   exact_mod_cast rfl
  have ayo:(Q:Int) - b2 (hS K Q)=(pz K Q:Int):=by unfold pz;rw[if_neg aJ];omega
  have qD:ll.pre [.int .u64 (hS K Q)]:=⟨_,rfl,by omega,by omega⟩
  have qE:ll.res [.int .u64 (hS K Q)]= .int .i64 (b2 (hS K Q)):=by simp only[ll,Int.toNat_natCast]
  simp (maxSteps:=60000) only[↓al,ak,↓reduceIte,reduceCtorEq,Nat.reduceEqDiff,Nat.reduceLeDiff,Nat.reduceSub,Nat.reduceAdd,Int.reduceToNat,Nat.reducePow,Int.reducePow,Int.reduceLE,Int.reduceLT,IntKind.bits,Tt,Tv,cd,Int.toNat_natCast,CY,mI,yU,hand,aw,yY,atj,qD,qE,atk,UB,ayo]
  ((repeat' apply And.intro)<;>first|assumption|with_reducible rfl|omega|(simp only[aI];omega)|exact⟨_,rfl⟩|exact⟨_,_,_,rfl⟩|exact⟨_,_,_,_,_,_,rfl⟩)
theorem FX (K:Int) (Q:Nat):mc.res [.agg [.int .i64 K,.int .i64 Q]]= .agg [.int .i64 (b5 (an K Q)),.int .i64 (a0 (an K Q))]:=by simp only[mc,Int.toNat_natCast];rfl
theorem i179 (K:Int) {Q:Nat} (h:Q≤60):mc.pre [.agg [.int .i64 K,.int .i64 Q]]:=⟨K,Q,rfl,h⟩
def me:br where
 pre:=fun ds=>∃(K:Int) (Q:Nat),ds=[cd K Q]∧Q≤60∧aI (-K)
 res:=fun ds=>match ds with
  |[.agg [.int _ K,.int _ Q]]=>jl (an (-K) Q.toNat)
  |_=> .nilp
theorem FY (Γ:Env) (Bx:Γ.has 179 mc) (ds:List D) (h:me.pre ds):bK Γ acE acF ds fun d=>d=me.res ds:=by
 obtain⟨K,Q,rfl,cw,ar⟩:=h
 have bO:me.res [cd K Q]=jl (an (-K) Q):=by simp only[me,cd,Int.toNat_natCast]
 rw[bO]
 have p1:=i179 (-K) cw
 have bA:=FX (-K) Q
 simp (maxSteps:=9^9) only[↓al,ak,simprocAttr,acE,acF,cd,Bx,Int.zero_sub,p1,bA,ar,jl]
theorem aei (K:Int) (Q:Nat):me.res [.agg [.int .i64 K,.int .i64 Q]]= .agg [.int .i64 (b5 (an (-K) Q)),.int .i64 (a0 (an (-K) Q))]:=by simp only[me,Int.toNat_natCast];rfl
def qa:br where
 pre:=fun ds=>∃(K:Int) (Q:Nat) (L:Int) (R:Nat),ds=[cd K Q,cd L R]∧Q≤60∧R≤60
 res:=fun ds=>match ds with
  |[.agg [.int _ K,.int _ Q],.agg [.int _ L,.int _ R]]=>jl ((an K Q.toNat+an L R.toNat) % 1152921504606846976)
  |_=> .nilp
theorem FZ (Γ:Env) (Bx:Γ.has 179 mc) (ds:List D) (h:qa.pre ds):bK Γ adi adj ds fun d=>d=qa.res ds:=by
 obtain⟨K,Q,L,R,rfl,cw,eC⟩:=h
 have bO:qa.res [cd K Q,cd L R]=jl ((an K Q+an L R) % 1152921504606846976):=by simp only[qa,cd,Int.toNat_natCast]
 rw[bO]
 have p1:=i179 K cw
 have bA:=FX K Q
 have cq:=i179 L eC
 have bX:=FX L R
 obtain⟨a,a6⟩:∃a,a=an K Q:=⟨_,rfl⟩
 obtain⟨b,aw⟩:∃b,b=an L R:=⟨_,rfl⟩
 have b4:a<1152921504606846976:=a6▸ft K Q
 have dJ:b<1152921504606846976:=aw▸ft L R
 have hH:a0 a≤60:=Bh a
 have aAn:a0 b≤60:=Bh b
 rw[←a6]at bA
 rw[←aw]at bX
 rw[←a6,←aw]
 obtain⟨q,aO⟩:∃q,q=max (a0 a) (a0 b):=⟨_,rfl⟩
 have sM:a0 a≤q:=by omega
 have jZ:a0 b≤q:=by omega
 have DG:q≤60:=by omega
 have s1:(q:Int) - (a0 a:Int)=((q - a0 a:Nat):Int):=by omega
 have s2:(q:Int) - (a0 b:Int)=((q - a0 b:Nat):Int):=by omega
 have cf:(b5 a:Int)*2^(q - a0 a)=((b5 a*2^(q - a0 a):Nat):Int):=by rw[Int.natCast_mul];exact_mod_cast rfl
 have cP:(b5 b:Int)*2^(q - a0 b)=((b5 b*2^(q - a0 b):Nat):Int):=by rw[Int.natCast_mul];exact_mod_cast rfl
 have ct:=EO b4 sM DG
 have db:=EO dJ jZ DG
 have bu:a / 2^(60 - q)≤a:=Nat.div_le_self _ _
 have bs:b / 2^(60 - q)≤b:=Nat.div_le_self _ _
 have e0:q - a0 a≤64:=by omega
 have gw:q - a0 b≤64:=by omega
 have fK:=i179 (((b5 a*2^(q - a0 a):Nat):Int)+((b5 b*2^(q - a0 b):Nat):Int)) DG
 have eJ:=FX (((b5 a*2^(q - a0 a):Nat):Int)+((b5 b*2^(q - a0 b):Nat):Int)) q
 rw[aaJ,Int.natCast_mul,Int.natCast_mul,aaK _ sM DG,aaK _ jZ DG,kj b4,kj dJ,←Int.natCast_mul,←Int.natCast_mul]at eJ
 rw[gx]
 unfold adi adj
 refine bC (fun s=>s.af 2= .box 2 0∧s.aA 2=some ⟨false,false,.cells [.d (.int .i64 K),.d (.int .i64 Q)]⟩∧s.af 3= .box 3 0∧s.aA 3=some ⟨false,false,.cells [.d (.int .i64 L),.d (.int .i64 R)]⟩∧s.af 4= .box 4 0∧s.aA 4=some ⟨false,false,.cells [.d (.int .i64 0),.d (.int .i64 0)]⟩) ?_ ?_
 ·simp (maxSteps:=9^9) only[↓al,ak,simprocAttr,cd]
 rintro s ⟨h2,aW,aq,a5,aK,a9⟩
 refine bC (fun s=>s.af 2= .box 2 0∧s.aA 2=some ⟨false,false,.cells [.d (.int .i64 (b5 a)),.d (.int .i64 (a0 a))]⟩∧s.af 3= .box 3 0∧s.aA 3=some ⟨false,false,.cells [.d (.int .i64 (b5 b)),.d (.int .i64 (a0 b))]⟩∧s.af 4= .box 4 0∧s.aA 4=some ⟨false,false,.cells [.d (.int .i64 0),.d (.int .i64 0)]⟩) ?_ ?_
 ·simp (maxSteps:=9^9) only[↓al,ak,simprocAttr,h2,aW,aq,a5,aK,a9,Bx,p1,bA,cq,bX]
 rintro s ⟨h2,aW,aq,a5,aK,a9⟩
 refine bC (fun s=>s.af 5= .d (.int .i64 q)∧s.af 2= .box 2 0∧s.aA 2=some ⟨false,false,.cells [.d (.int .i64 (b5 a)),.d (.int .i64 (a0 a))]⟩∧s.af 3= .box 3 0∧s.aA 3=some ⟨false,false,.cells [.d (.int .i64 (b5 b)),.d (.int .i64 (a0 b))]⟩∧s.af 4= .box 4 0∧s.aA 4=some ⟨false,false,.cells [.d (.int .i64 0),.d (.int .i64 0)]⟩) ?_ ?_
 ·simp (maxSteps:=9^9) only[↓al,ak,simprocAttr,h2,aW,aq,a5,aK,a9]
  split<;>omega
 rintro s ⟨aG,h2,aW,aq,a5,aK,a9⟩
 simp (maxSteps:=9^9) only[↓al,ak,simprocAttr,aG,h2,aW,aq,a5,aK,a9,cd,Bx,s1,s2,Int.toNat_natCast,e0,gw,cf,cP,fK,eJ,jl]
 ((repeat' apply And.intro)<;>first|assumption|with_reducible rfl|omega|(simp only[aI];omega)|exact⟨_,rfl⟩|exact⟨_,_,_,rfl⟩|exact⟨_,_,_,_,_,_,rfl⟩)
def sC:br where
 pre:=fun ds=>∃e:Nat,ds=[.int .i64 e]∧e≤8
 res:=fun ds=>match ds with
  |[.int _ e]=>jl (an (-e) 3)
  |_=> .nilp
theorem F0 (Γ:Env) (TT:Γ.has 184 me) (ds:List D) (h:sC.pre ds):bK Γ ab4 ab5 ds fun d=>d=sC.res ds:=by
 obtain⟨e,rfl,he⟩:=h
 have p1:me.pre [.agg [.int .i64 e,.int .i64 3]]:=⟨e,3,rfl,by omega,by simp only[aI];omega⟩
 have bA:=aei e 3
 have avy:me.res [.agg [.int .i64 e,.int .i64 3]]= .agg [.int .i64 (b5 (an (-e) 3)),.int .i64 (a0 (an (-e) 3))]:=bA
 simp (maxSteps:=9^9) only[↓al,ak,simprocAttr,ab4,ab5,cd,TT,p1,avy,sC,jl]
def ca (a:Nat):Nat:=a / 144115188075855872
def bV (a:Nat):Nat:=if ca a % 2=0 then a - ca a*144115188075855872 else (ca a+1)*144115188075855872 - a
def vP (a:Nat):D:= .agg [.int .i64 (ca a),.int .i64 (b5 (bV a)),.int .i64 (a0 (bV a))]
def ln:br where
 pre:=fun ds=>∃(K:Int) (Q:Nat),ds=[cd K Q]∧Q≤60
 res:=fun ds=>match ds with
  |[.agg [.int _ K,.int _ Q]]=>vP (an K Q.toNat)
  |_=> .nilp
def mf:br where
 pre:=fun ds=>∃e:Int,ds=[.int .i64 e]∧0≤e∧e≤7
 res:=fun ds=>match ds with
  |[.int _ e]=> .du [.bool (decide (e=1∨e=2∨e=5∨e=6)),.bool (decide (2≤e∧e≤5)),.bool (decide (4≤e))]
  |_=> .nilp
theorem Bj {a:Nat} (h:a<1152921504606846976):ca a≤7:=by unfold ca;omega
theorem CV (a:Nat):bV a≤144115188075855872:=by unfold bV ca;split<;>omega
theorem ag7 (e:Nat) (h:e≤8):an (-(e:Int)) 3=(1152921504606846976 - e*144115188075855872) % 1152921504606846976:=by
 unfold an
 have:((2^(60 - 3):Nat):Int)=144115188075855872:=by decide
 rw[this];omega
theorem anQ {a:Nat} (h:a<1152921504606846976) (he:ca a % 2=0):(a+an (-(ca a:Int)) 3) % 1152921504606846976=bV a:=by
 have h1:=Bj h
 rw[ag7 _ (by omega)]
 unfold bV
 rw[if_pos he]
 unfold ca at*
 omega
theorem apm {a:Nat} (h:a<1152921504606846976) (he:¬ca a % 2=0):(1152921504606846976 - (a+an (-((ca a+1:Nat):Int)) 3) % 1152921504606846976) % 1152921504606846976=bV a:=by
 have h1:=Bj h
 rw[ag7 _ (by omega)]
 unfold bV
 rw[if_neg he]
 unfold ca at*
 omega
theorem ayp {a:Nat} (h:a<1152921504606846976) (aq:3≤a0 a):b5 a / 2^(a0 a - 3)=ca a:=by
 have h1:=Bi h
 have h2:=Bh a
 unfold ca
 rw[show (144115188075855872:Nat)=2^(60 - a0 a)*2^(a0 a - 3)by rw[←Nat.pow_add,show 60 - a0 a+(a0 a - 3)=57 by omega],←Nat.div_div_eq_div_mul]
 congr 1
 exact(Nat.div_eq_of_eq_mul_left (Nat.two_pow_pos _) h1.symm).symm
theorem PD {a:Nat} (h:a<1152921504606846976) (aq:a0 a≤3):b5 a*2^(3 - a0 a)=ca a:=by
 rw[EO h aq (by omega)];rfl
theorem F1 (Γ:Env) (ds:List D) (h:mf.pre ds):bK Γ acr acs ds fun d=>d=mf.res ds:=by
 obtain⟨e,rfl,avz,he⟩:=h
 have:e=0∨e=1∨e=2∨e=3∨e=4∨e=5∨e=6∨e=7:=by omega
 have bn:((8:Nat):Int)=8:=rfl
 have aq:((3:Nat):Int)=3:=rfl
 rcases this with rfl|rfl|rfl|rfl|rfl|rfl|rfl|rfl<;>
  (simp (maxSteps:=9^9) only[↓al,ak,simprocAttr,acr,acs,aq,mf,Int.reduceGT,Nat.reduceMul,bn,ag.df,List.map_cons,List.map_nil,List.drop_succ_cons,List.drop_zero,List.take_succ_cons,List.take_zero,or_self,or_true,true_or,Int.reduceEq]<;>decide)
theorem aej (e:Nat):sC.res [.int .i64 e]= .agg [.int .i64 (b5 (an (-(e:Int)) 3)),.int .i64 (a0 (an (-(e:Int)) 3))]:=rfl
theorem aek (K:Int) (Q:Nat) (L:Int) (R:Nat):qa.res [.agg [.int .i64 K,.int .i64 Q],.agg [.int .i64 L,.int .i64 R]]= .agg [.int .i64 (b5 ((an K Q+an L R) % 1152921504606846976)),.int .i64 (a0 ((an K Q+an L R) % 1152921504606846976))]:=by simp only[qa,Int.toNat_natCast];rfl
def C6 (k q:Int) (s:St):Prop:=s.af 2= .box 2 0∧s.aA 2=some ⟨false,false,.cells [.d (.int .i64 0),.d (.int .i64 0),.d (.int .i64 0)]⟩∧s.af 3= .box 3 0∧s.aA 3=some ⟨false,false,.cells [.d (.int .i64 k),.d (.int .i64 q)]⟩
theorem F2 (Γ:Env) (Bx:Γ.has 179 mc) (ael:Γ.has 183 sC) (aem:Γ.has 185 qa) (TT:Γ.has 184 me) (ds:List D) (h:ln.pre ds):bK Γ abU abV ds fun d=>d=ln.res ds:=by
 obtain⟨K,Q,rfl,cw⟩:=h
 have bO:ln.res [cd K Q]=vP (an K Q):=by simp only[ln,cd,Int.toNat_natCast]
 rw[bO]
 have p1:=i179 K cw
 have bA:=FX K Q
 obtain⟨a,a6⟩:∃a,a=an K Q:=⟨_,rfl⟩
 have b4:a<1152921504606846976:=a6▸ft K Q
 have hH:a0 a≤60:=Bh a
 rw[←a6]at bA⊢
 have eO:=Bj b4
 obtain⟨k,q,OV⟩:∃k q,(k=if a0 a<3 then b5 a*2^(3 - a0 a)else b5 a)∧q=max (a0 a) 3:=⟨_,_,rfl,rfl⟩
 obtain⟨ad,aO⟩:=OV
 have ek:k / 2^(q - 3)=ca a:=by
  rw[ad,aO]
  split
  ·rename_i h;rw[PD b4 (by omega),show max (a0 a) 3 - 3=0 by omega,Nat.pow_zero,Nat.div_one]
  ·rename_i h;rw[show max (a0 a) 3=a0 a by omega];exact ayp b4 (by omega)
 have aji:an k q=a:=by
  rw[ad,aO,Ja]
  split
  ·rename_i h;rw[PD b4 (by omega),show max (a0 a) 3=3 by omega]
   have:=EO b4 (q:=3) (by omega) (by omega)
   have h2:=PD b4 (by omega:a0 a≤3)
   have aq:=Bi b4
   rw[show 60 - a0 a=(3 - a0 a)+57 by omega,Nat.pow_add,←Nat.mul_assoc,h2]at aq
   omega
  ·rename_i h;rw[show max (a0 a) 3=a0 a by omega,←Ja,kj b4]
 have azi:k<1152921504606846976:=by
  rw[ad];split
  ·rw[PD b4 (by omega)];omega
  ·exact NZ b4
 have sM:3≤q:=by omega
 have jZ:q≤60:=by omega
 rw[gx]
 unfold abU abV
 refine bC (fun s=>s.af 1= .box 1 0∧s.aA 1=some ⟨false,false,.cells [.d (.int .i64 K),.d (.int .i64 Q)]⟩∧s.af 2= .box 2 0∧s.aA 2=some ⟨false,false,.cells [.d (.int .i64 0),.d (.int .i64 0),.d (.int .i64 0)]⟩) ?_ ?_
 ·simp (maxSteps:=9^9) only[↓al,ak,simprocAttr,cd]
 rintro s ⟨h1,bM,h2,aW⟩
 refine bC (fun s=>C6 (b5 a) (a0 a) s) ?_ ?_
 ·simp (maxSteps:=9^9) only[↓al,ak,simprocAttr,h1,bM,h2,aW,Bx,p1,bA,C6]
 rintro s ⟨h2,aW,aq,a5⟩
 by_cases h0:a=0
 ·subst h0
  have eZ:((b5 0:Nat):Int)=0:=by rw[yq.1];rfl
  have gU:((a0 0:Nat):Int)=0:=by rw[yq.2];rfl
  have aN:((ca 0:Nat):Int)=0:=rfl
  have aX:bV 0=0:=rfl
  rw[eZ,gU]at a5
  refine bC (fun s=>C6 0 0 s) ?_ ?_
  ·simp (maxSteps:=9^9) only[↓al,ak,simprocAttr,h2,aW,aq,a5,C6,Int.reduceSub,Int.reduceGT,beq_self_eq_true,Bool.and_self,Bool.not_true]
   ((repeat' apply And.intro)<;>first|assumption|with_reducible rfl|omega|(simp only[aI];omega)|exact⟨_,rfl⟩|exact⟨_,_,_,rfl⟩|exact⟨_,_,_,_,_,_,rfl⟩)
  rintro s ⟨h2,aW,aq,a5⟩
  simp (maxSteps:=9^9) only[↓al,ak,simprocAttr,h2,aW,aq,a5,vP,aN,aX,eZ,gU,beq_self_eq_true,Bool.and_self]
 have azE:1≤a0 a:=by unfold a0;rw[if_neg h0];have:=OC h0 b4;omega
 have cl:((a0 a:Int)==0)=false:=beq_false_of_ne (by omega)
 have ag8:((q:Int)==0)=false:=beq_false_of_ne (by omega)
 refine bC (fun s=>C6 k q s) ?_ ?_
 ·by_cases bH:a0 a<3
  ·have bu:(3:Int) - a0 a=((3 - a0 a:Nat):Int):=by omega
   have bs:((3 - a0 a:Nat):Int)>0:=by omega
   have fo:3 - a0 a≤64:=by omega
   have ff:(b5 a:Int)*2^(3 - a0 a)=(k:Int):=by rw[ad,if_pos bH,Int.natCast_mul];exact_mod_cast rfl
   have fg:(q:Int)=3:=by omega
   simp (maxSteps:=9^9) only[↓al,ak,simprocAttr,h2,aW,aq,a5,C6,bu,bs,fo,ff,fg,cl,Int.toNat_natCast,Bool.and_false,Bool.not_false]
   ((repeat' apply And.intro)<;>first|assumption|with_reducible rfl|omega|(simp only[aI];omega)|exact⟨_,rfl⟩|exact⟨_,_,_,rfl⟩|exact⟨_,_,_,_,_,_,rfl⟩)
  ·have bs:¬((3:Int) - q>0):=by omega
   have ff:(b5 a:Int)=(k:Int):=by rw[ad,if_neg bH]
   have fg:(a0 a:Int)=q:=by omega
   simp (maxSteps:=9^9) only[↓al,ak,simprocAttr,h2,aW,aq,a5,C6,bs,ff,fg]
   ((repeat' apply And.intro)<;>first|assumption|with_reducible rfl|omega|(simp only[aI];omega)|exact⟨_,rfl⟩|exact⟨_,_,_,rfl⟩|exact⟨_,_,_,_,_,_,rfl⟩)
 rintro s ⟨h2,aW,aq,a5⟩
 have s1:(q:Int) - 3=((q - 3:Nat):Int):=by omega
 have e0:q - 3≤64:=by omega
 have fd:(k:Int).fdiv (2^(q - 3))=(ca a:Int):=by
  rw[Int.fdiv_eq_ediv_of_nonneg _ (Int.le_of_lt (Int.pow_pos (by decide))),←ek]
  exact_mod_cast rfl
 have DY:iH .i64 (ca a:Int) 1=((ca a % 2:Nat):Int):=(Ev 1 (by omega) (ca a):iH .i64 (ca a:Int) ((2^1 - 1:Nat):Int)=_).trans (by omega)
 by_cases he:ca a % 2=0
 ·have aw:(((ca a % 2:Nat):Int)==0)=true:=by rw[he];rfl
  have ps:sC.pre [.int .i64 (ca a)]:=⟨ca a,rfl,by omega⟩
  have rs:=aej (ca a)
  obtain⟨x,aj⟩:∃x,x=an (-(ca a:Int)) 3:=⟨_,rfl⟩
  have c7:x<1152921504606846976:=aj▸ft _ _
  have GX:=anQ b4 he
  rw[←aj]at rs GX
  have pa:qa.pre [.agg [.int .i64 k,.int .i64 q],.agg [.int .i64 (b5 x),.int .i64 (a0 x)]]:=⟨k,q,b5 x,a0 x,rfl,jZ,Bh x⟩
  have ox:=aek k q (b5 x) (a0 x)
  rw[aji,kj c7,GX]at ox
  simp (maxSteps:=9^9) only[↓al,ak,simprocAttr,h2,aW,aq,a5,ag8,Bool.and_false,s1,e0,Int.toNat_natCast,fd,DY,aw,ael,ps,rs,aem,pa,ox,vP]
  ((repeat' apply And.intro)<;>first|assumption|with_reducible rfl|omega|(simp only[aI];omega)|exact⟨_,rfl⟩|exact⟨_,_,_,rfl⟩|exact⟨_,_,_,_,_,_,rfl⟩)
 ·have aw:(((ca a % 2:Nat):Int)==0)=false:=beq_false_of_ne (by omega)
  have ps:sC.pre [.int .i64 ((ca a+1:Nat):Int)]:=⟨ca a+1,rfl,by omega⟩
  have rs:=aej (ca a+1)
  obtain⟨x,aj⟩:∃x,x=an (-((ca a+1:Nat):Int)) 3:=⟨_,rfl⟩
  have c7:x<1152921504606846976:=aj▸ft _ _
  have GX:=apm b4 he
  rw[←aj]at rs GX
  have pa:qa.pre [.agg [.int .i64 k,.int .i64 q],.agg [.int .i64 (b5 x),.int .i64 (a0 x)]]:=⟨k,q,b5 x,a0 x,rfl,jZ,Bh x⟩
  have ox:=aek k q (b5 x) (a0 x)
  rw[aji,kj c7]at ox
  obtain⟨y,hy⟩:∃y,y=(a+x) % 1152921504606846976:=⟨_,rfl⟩
  have gW:y<1152921504606846976:=by omega
  rw[←hy]at ox GX
  have jJ:me.pre [.agg [.int .i64 (b5 y),.int .i64 (a0 y)]]:=⟨b5 y,a0 y,rfl,Bh y,by have:=NZ gW;simp only[aI];omega⟩
  have hT:=aei (b5 y) (a0 y)
  rw[aaI,kj gW,GX]at hT
  have avA:(ca a:Int)+1=((ca a+1:Nat):Int):=by omega
  simp (maxSteps:=9^9) only[↓al,ak,simprocAttr,h2,aW,aq,a5,ag8,Bool.and_false,s1,e0,Int.toNat_natCast,fd,DY,aw,avA,ael,ps,rs,aem,pa,ox,TT,jJ,hT,vP]
  ((repeat' apply And.intro)<;>first|assumption|with_reducible rfl|omega|(simp only[aI];omega)|exact⟨_,rfl⟩|exact⟨_,_,_,rfl⟩|exact⟨_,_,_,_,_,_,rfl⟩)
def pf:br where
 pre:=fun ds=>∃x:a8,ds=[aV x]
 res:=fun ds=>match ds with
  |[p]=> .int .i64 (ik (fj p))
  |_=> .nilp
theorem GY (Γ:Env) (f126:Γ.fn 126=some kM) (Bz:Γ.mt 126=none) (ds:List D) (h:pf.pre ds):bK Γ Pp Pq ds fun d=>d=pf.res ds:=by
 obtain⟨x,rfl⟩:=h
 have zk:kM.own=false:=rfl
 have r1:kM.pre [.agg [.bool x.neg,.ints .i64 (au x.m),.int .i64 x.e]]:=⟨_,_,_,rfl⟩
 by_cases h0:x.m=0
 ·have aj:ik x=0:=by unfold ik;rw[if_pos h0]
  have xM:kM.res [.agg [.bool x.neg,.ints .i64 (au x.m),.int .i64 x.e]]= .bool true:=by rw[RA,decide_eq_true h0]
  simp (maxSteps:=9^9) only[↓al,ak,simprocAttr,Pp,Pq,pf,aV,ck,aj,f126,Bz,zk,r1,xM]
 ·have xM:kM.res [.agg [.bool x.neg,.ints .i64 (au x.m),.int .i64 x.e]]= .bool false:=by rw[RA,decide_eq_false h0]
  cases aJ:x.neg with
  |true=>
   have aj:ik x= -1:=by unfold ik;rw[if_neg h0,aJ];rfl
   have hy:=ck x
   rw[aJ]at hy r1 xM
   simp (maxSteps:=9^9) only[↓al,ak,simprocAttr,Pp,Pq,pf,aV,aJ,hy,aj,f126,Bz,zk,r1,xM]
  |false=>
   have aj:ik x=1:=by unfold ik;rw[if_neg h0,aJ];rfl
   have hy:=ck x
   rw[aJ]at hy r1 xM
   simp (maxSteps:=9^9) only[↓al,ak,simprocAttr,Pp,Pq,pf,aV,aJ,hy,aj,f126,Bz,zk,r1,xM]
theorem Z7 {Γ:Env} {c:bk} {a b:a3} {Q:fi→St→Prop} {σ:St} (h:σ.aU c= .d (.bool false)) (k:cb Γ b Q σ):cb Γ (.cond c a b) Q σ:=by
 simp only[cb,h]
 exact⟨fun e=>(by cases e),fun _=>k⟩
def kV:br where
 pre:=fun ds=>∃x y:a8,ds=[aV x,aV y]∧dj x∧dj y
 res:=fun ds=>match ds with
  |[p,q]=>aV (dW (fj p) (fj q))
  |_=> .nilp
theorem GZ (Γ:Env) (f135:Γ.fn 135=some e9) (rb:Γ.mt 135=none) (f138:Γ.fn 138=some vq) (atl:Γ.mt 138=none)
 (f133:Γ.fn 133=some ju) (JY:Γ.mt 133=none) (f139:Γ.fn 139=some iK) (aen:Γ.mt 139=none) (f126:Γ.fn 126=some kM) (Bz:Γ.mt 126=none)
 (f82:Γ.fn 82=some hs) (B4:Γ.mt 82=none)
 (ds:List D) (h:kV.pre ds):bK Γ af5 af6 ds fun d=>d=kV.res ds:=by
 obtain⟨x,y,rfl,aj,hy⟩:=h
 have ex:=mH aj
 have zi:=mH hy
 have c7:=l1 aj
 have gW:=l1 hy
 have aA:=sg aj
 have Wu:=sg hy
 have zk:kM.own=false:=rfl
 have r1:∀z:a8,kM.pre [.agg [.bool z.neg,.ints .i64 (au z.m),.int .i64 z.e]]:=fun z=>⟨_,_,_,rfl⟩
 have xM:∀z:a8,kM.res [.agg [.bool z.neg,.ints .i64 (au z.m),.int .i64 z.e]]= .bool (decide (z.m=0)):=fun z=>RA z
 have PE:hs.own=false:=rfl
 have G0:∀z:a8,dj z→hs.pre [.agg [.bool z.neg,.ints .i64 (au z.m),.int .i64 z.e],.int .i64 0]:=fun z bp=>⟨z,0,rfl,bp,by omega,by omega⟩
 have ag9:∀z:a8,dj z→hs.res [.agg [.bool z.neg,.ints .i64 (au z.m),.int .i64 z.e],.int .i64 0]= .agg [.bool z.neg,.ints .i64 (au z.m),.int .i64 z.e]:=fun z bp=>by
  simp only[hs,ck,Mh bp.1,aV,aZ]
 rw[gx]
 unfold af5 af6
 refine cB (fun s=>s.af 2= .box 2 0∧s.aA 2=some ⟨false,false,.cells [.d (.bool x.neg),.d (.ints .i64 (au x.m)),.d (.int .i64 x.e)]⟩∧s.af 3= .box 3 0∧s.aA 3=some ⟨false,false,.cells [.d (.bool y.neg),.d (.ints .i64 (au y.m)),.d (.int .i64 y.e)]⟩∧s.af 4= .box 4 0∧(∃bJ bu bs,s.aA 4=some ⟨false,false,.cells [bJ,bu,bs]⟩)∧s.aA 5=none∧s.aA 6=none) ?_ ?_
 ·simp (maxSteps:=9^9) only[↓al,ak,simprocAttr,aV]
  exact⟨_,_,_,rfl⟩
 rintro s ⟨h2,aW,aq,a5,aK,⟨bJ,bu,bs,a9⟩,bq,aY⟩
 refine cB (fun s=>s.af 2= .box 2 0∧s.aA 2=some ⟨false,false,.cells [.d (.bool x.neg),.d (.ints .i64 (au x.m)),.d (.int .i64 x.e)]⟩∧s.af 3= .box 3 0∧s.aA 3=some ⟨false,false,.cells [.d (.bool y.neg),.d (.ints .i64 (au y.m)),.d (.int .i64 y.e)]⟩∧s.af 5= .box 5 0∧s.aA 5=some ⟨false,false,.cells [.d (.bool x.neg),.d (.ints .i64 (au x.m)),.d (.int .i64 x.e)]⟩∧s.af 6= .box 6 0∧s.aA 6=some ⟨false,false,.cells [.d (.bool y.neg),.d (.ints .i64 (au y.m)),.d (.int .i64 y.e)]⟩∧s.af 4= .box 4 0∧(∃bJ bu bs,s.aA 4=some ⟨false,false,.cells [bJ,bu,bs]⟩)) ?_ ?_
 ·simp (maxSteps:=9^9) only[↓al,ak,simprocAttr,h2,aW,aq,a5,aK,a9,bq,aY,Nat.reduceBeqDiff,Nat.reduceBneDiff]
  exact⟨_,_,_,rfl⟩
 clear h2 aW aq a5 aK a9 bq aY
 rintro s ⟨h2,aW,aq,a5,aG,bq,aM,aY,aK,bJ,bu,bs,a9⟩
 rw[ka]
 by_cases h0:x.m=0
 ·have ar:dW x y=y:=by unfold dW;rw[if_pos h0]
  have aD:=decide_eq_true h0
  simp (maxSteps:=9^9) only[↓al,ak,simprocAttr,kV,aV,ck,ar,h2,aW,aq,a5,aG,bq,aM,aY,aK,a9,f126,Bz,zk,r1,xM,aD,f82,B4,PE,G0 y hy,ag9 y hy]
 have O0:=decide_eq_false h0
 refine cB (fun s=>s.af 71= .d (.bool false)∧s.af 2= .box 2 0∧s.aA 2=some ⟨false,false,.cells [.d (.bool x.neg),.d (.ints .i64 (au x.m)),.d (.int .i64 x.e)]⟩∧s.af 3= .box 3 0∧s.aA 3=some ⟨false,false,.cells [.d (.bool y.neg),.d (.ints .i64 (au y.m)),.d (.int .i64 y.e)]⟩∧s.af 5= .box 5 0∧s.aA 5=some ⟨false,false,.cells [.d (.bool x.neg),.d (.ints .i64 (au x.m)),.d (.int .i64 x.e)]⟩∧s.af 6= .box 6 0∧s.aA 6=some ⟨false,false,.cells [.d (.bool y.neg),.d (.ints .i64 (au y.m)),.d (.int .i64 y.e)]⟩∧s.af 4= .box 4 0∧(∃bJ bu bs,s.aA 4=some ⟨false,false,.cells [bJ,bu,bs]⟩)) ?_ ?_
 ·simp (maxSteps:=9^9) only[↓al,ak,simprocAttr,h2,aW,aq,a5,aG,bq,aM,aY,aK,a9,f126,Bz,zk,r1,xM,O0]
  exact⟨_,_,_,rfl⟩
 clear h2 aW aq a5 aG bq aM aY aK a9
 rintro s ⟨B5,h2,aW,aq,a5,aG,bq,aM,aY,aK,bJ,bu,bs,a9⟩
 refine Z7 B5 ?_
 by_cases h1:y.m=0
 ·have ar:dW x y=x:=by unfold dW;rw[if_neg h0,if_pos h1]
  have aD:=decide_eq_true h1
  simp (maxSteps:=9^9) only[↓al,ak,simprocAttr,kV,aV,ck,ar,h2,aW,aq,a5,aG,bq,aM,aY,aK,a9,f126,Bz,zk,r1,xM,aD,f82,B4,PE,G0 x aj,ag9 x aj]
 have lD:=decide_eq_false h1
 refine cB (fun s=>s.af 76= .d (.bool false)∧s.af 2= .box 2 0∧s.aA 2=some ⟨false,false,.cells [.d (.bool x.neg),.d (.ints .i64 (au x.m)),.d (.int .i64 x.e)]⟩∧s.af 3= .box 3 0∧s.aA 3=some ⟨false,false,.cells [.d (.bool y.neg),.d (.ints .i64 (au y.m)),.d (.int .i64 y.e)]⟩∧s.af 5= .box 5 0∧s.aA 5=some ⟨false,false,.cells [.d (.bool x.neg),.d (.ints .i64 (au x.m)),.d (.int .i64 x.e)]⟩∧s.af 6= .box 6 0∧s.aA 6=some ⟨false,false,.cells [.d (.bool y.neg),.d (.ints .i64 (au y.m)),.d (.int .i64 y.e)]⟩∧s.af 4= .box 4 0∧(∃bJ bu bs,s.aA 4=some ⟨false,false,.cells [bJ,bu,bs]⟩)) ?_ ?_
 ·simp (maxSteps:=9^9) only[↓al,ak,simprocAttr,h2,aW,aq,a5,aG,bq,aM,aY,aK,a9,f126,Bz,zk,r1,xM,lD]
  exact⟨_,_,_,rfl⟩
 clear h2 aW aq a5 aG bq aM aY aK a9 B5
 rintro s ⟨aha,h2,aW,aq,a5,aG,bq,aM,aY,aK,bJ,bu,bs,a9⟩
 refine Z7 aha ?_
 obtain⟨E,eO⟩:∃E,E=min x.e y.e:=⟨_,rfl⟩
 have iL:(if y.e<x.e then y.e else x.e)=E:=by split<;>omega
 obtain⟨X,jI⟩:∃X,X=x.m*2^(x.e - E).toNat:=⟨_,rfl⟩
 obtain⟨Y,jk⟩:∃Y,Y=y.m*2^(y.e - E).toNat:=⟨_,rfl⟩
 have ayq:a1 X≤200000:=by rw[jI,pE h0];omega
 have avB:a1 Y≤200000:=by rw[jk,pE h1];omega
 have ayr:=gh X
 have ays:=gh Y
 refine cB (fun s=>s.af 7= .d (.int .i64 E)∧s.af 2= .box 2 0∧s.aA 2=some ⟨false,false,.cells [.d (.bool x.neg),.d (.ints .i64 (au x.m)),.d (.int .i64 x.e)]⟩∧s.af 3= .box 3 0∧s.aA 3=some ⟨false,false,.cells [.d (.bool y.neg),.d (.ints .i64 (au y.m)),.d (.int .i64 y.e)]⟩∧s.af 5= .box 5 0∧s.aA 5=some ⟨false,false,.cells [.d (.bool x.neg),.d (.ints .i64 (au x.m)),.d (.int .i64 x.e)]⟩∧s.af 6= .box 6 0∧s.aA 6=some ⟨false,false,.cells [.d (.bool y.neg),.d (.ints .i64 (au y.m)),.d (.int .i64 y.e)]⟩∧s.af 4= .box 4 0∧(∃bJ bu bs,s.aA 4=some ⟨false,false,.cells [bJ,bu,bs]⟩)) ?_ ?_
 ·simp (maxSteps:=9^9) only[↓al,ak,simprocAttr,h2,aW,aq,a5,aG,bq,aM,aY,aK,a9,iL]
  exact⟨_,_,_,rfl⟩
 clear h2 aW aq a5 aG bq aM aY aK a9 aha
 rintro s ⟨aS,h2,aW,aq,a5,aG,bq,aM,aY,aK,bJ,bu,bs,a9⟩
 refine cB (fun s=>s.af 9= .d (.ints .i64 (au Y))∧s.af 8= .d (.ints .i64 (au X))∧s.af 7= .d (.int .i64 E)∧s.af 2= .box 2 0∧s.aA 2=some ⟨false,false,.cells [.d (.bool x.neg),.d (.ints .i64 (au x.m)),.d (.int .i64 x.e)]⟩∧s.af 3= .box 3 0∧s.aA 3=some ⟨false,false,.cells [.d (.bool y.neg),.d (.ints .i64 (au y.m)),.d (.int .i64 y.e)]⟩∧s.af 5= .box 5 0∧s.aA 5=some ⟨false,false,.cells [.d (.bool x.neg),.d (.ints .i64 (au x.m)),.d (.int .i64 x.e)]⟩∧s.af 6= .box 6 0∧s.aA 6=some ⟨false,false,.cells [.d (.bool y.neg),.d (.ints .i64 (au y.m)),.d (.int .i64 y.e)]⟩∧s.af 4= .box 4 0∧(∃bJ bu bs,s.aA 4=some ⟨false,false,.cells [bJ,bu,bs]⟩)) ?_ ?_
 ·simp (maxSteps:=9^9) only[↓al,ak,simprocAttr,aS,h2,aW,aq,a5,aG,bq,aM,aY,aK,a9,f138,atl,vq,ck,←jI,←jk]
  exact⟨⟨x,E,rfl,aj,by omega,by omega⟩,⟨y,E,rfl,hy,by omega,by omega⟩,_,_,_,rfl⟩
 clear h2 aW aq a5 aG bq aM aY aK a9 aS
 rintro s ⟨bH,bn,aS,h2,aW,aq,a5,aG,bq,aM,aY,aK,bJ,bu,bs,a9⟩
 by_cases bR:x.neg=y.neg
 ·have vO:(x.neg==y.neg)=true:=by simpa using bR
  have ar:dW x y=mk x.neg (X+Y) E:=by unfold dW;rw[if_neg h0,if_neg h1,if_pos bR,←eO,←jI,←jk]
  have At:=Cr X Y
  have ls:=A1 (n:=X+Y) (by omega)
  simp (maxSteps:=9^9) only[↓al,ak,simprocAttr,kV,aV,ck,ar,bH,bn,aS,h2,aW,aq,a5,aG,bq,aM,aY,aK,a9,f135,rb,e9,f133,JY,ju,bT,vO]
  exact⟨⟨_,_,rfl,c4 _,c4 _,by omega,by omega⟩,⟨_,_,_,rfl,ls,by omega,by omega⟩⟩
 have vO:(x.neg==y.neg)=false:=by simpa using bR
 refine cB (fun s=>s.af 9= .d (.ints .i64 (au Y))∧s.af 8= .d (.ints .i64 (au X))∧s.af 7= .d (.int .i64 E)∧s.af 2= .box 2 0∧s.aA 2=some ⟨false,false,.cells [.d (.bool x.neg),.d (.ints .i64 (au x.m)),.d (.int .i64 x.e)]⟩∧s.af 3= .box 3 0∧s.aA 3=some ⟨false,false,.cells [.d (.bool y.neg),.d (.ints .i64 (au y.m)),.d (.int .i64 y.e)]⟩∧s.af 5= .box 5 0∧s.aA 5=some ⟨false,false,.cells [.d (.bool x.neg),.d (.ints .i64 (au x.m)),.d (.int .i64 x.e)]⟩∧s.af 6= .box 6 0∧s.aA 6=some ⟨false,false,.cells [.d (.bool y.neg),.d (.ints .i64 (au y.m)),.d (.int .i64 y.e)]⟩∧s.af 4= .box 4 0∧(∃bJ bu bs,s.aA 4=some ⟨false,false,.cells [bJ,bu,bs]⟩)) ?_ ?_
 ·simp (maxSteps:=9^9) only[↓al,ak,simprocAttr,bH,bn,aS,h2,aW,aq,a5,aG,bq,aM,aY,aK,a9,vO]
  exact⟨_,_,_,rfl⟩
 clear h2 aW aq a5 aG bq aM aY aK a9 aS bn bH
 rintro s ⟨bH,bn,aS,h2,aW,aq,a5,aG,bq,aM,aY,aK,bJ,bu,bs,a9⟩
 have os:iK.own=false:=rfl
 have ps:iK.pre [.ints .i64 (au X),.ints .i64 (au Y)]:=⟨X,Y,rfl,by omega,by omega⟩
 have OT:iK.pre [.ints .i64 (au Y),.ints .i64 (au X)]:=⟨Y,X,rfl,by omega,by omega⟩
 by_cases bS:Y≤X
 ·have ar:dW x y=mk x.neg (X - Y) E:=by unfold dW;rw[if_neg h0,if_neg h1,if_neg bR,←eO,←jI,←jk,if_pos bS]
  have ls:=A1 (n:=X - Y) (by have:=tm (show X - Y≤X by omega);omega)
  have rs:iK.res [.ints .i64 (au X),.ints .i64 (au Y)]= .du [.ints .i64 (au (X - Y)),.bool true]:=by simp only[iK,bT,if_neg (show¬X<Y by omega),aZ]
  simp (maxSteps:=9^9) only[↓al,ak,simprocAttr,kV,aV,ck,ar,bH,bn,aS,h2,aW,aq,a5,aG,bq,aM,aY,aK,a9,f135,rb,e9,f139,aen,os,ps,rs,bT]
  exact⟨_,_,_,rfl,ls,by omega,by omega⟩
 ·have ar:dW x y=mk y.neg (Y - X) E:=by unfold dW;rw[if_neg h0,if_neg h1,if_neg bR,←eO,←jI,←jk,if_neg bS]
  have ls:=A1 (n:=Y - X) (by have:=tm (show Y - X≤Y by omega);omega)
  have rs:iK.res [.ints .i64 (au X),.ints .i64 (au Y)]= .du [.ints .i64 [],.bool false]:=by simp only[iK,bT,if_pos (show X<Y by omega)]
  have o9:iK.res [.ints .i64 (au Y),.ints .i64 (au X)]= .du [.ints .i64 (au (Y - X)),.bool true]:=by simp only[iK,bT,if_neg (show¬Y<X by omega),aZ]
  simp (maxSteps:=9^9) only[↓al,ak,simprocAttr,kV,aV,ck,ar,bH,bn,aS,h2,aW,aq,a5,aG,bq,aM,aY,aK,a9,f135,rb,e9,f139,aen,os,ps,OT,rs,o9,bT]
  exact⟨_,_,_,rfl,ls,by omega,by omega⟩
def j0:br where
 pre:=fun ds=>∃x y:a8,ds=[aV x,aV y]∧dj x∧dj y
 res:=fun ds=>match ds with
  |[p,q]=> .int .i64 (e4 (fj p) (fj q))
  |_=> .nilp
theorem G1 (Γ:Env) (f85:Γ.fn 85=some mJ) (K0:Γ.mt 85=none) (f84:Γ.fn 84=some kV) (K1:Γ.mt 84=none) (f76:Γ.fn 76=some pf) (PF:Γ.mt 76=none)
 (ds:List D) (h:j0.pre ds):bK Γ agN agO ds fun d=>d=j0.res ds:=by
 obtain⟨x,y,rfl,aj,hy⟩:=h
 simp (maxSteps:=9^9) only[↓al,ak,simprocAttr,agN,agO,j0,aV,ck,f85,K0,mJ,f84,K1,kV,f76,PF,pf,e4]
 exact⟨⟨y,rfl,hy⟩,⟨x,eQ y,rfl,aj,tn hy⟩,⟨dW x (eQ y),rfl⟩⟩
def gn:br where
 pre:=fun ds=>∃x y:a8,ds=[aV x,aV y]∧dj x∧dj y
 res:=fun ds=>match ds with
  |[p,q]=>aV (dW (fj p) (fj q))
  |_=> .nilp
theorem K2 (Γ:Env) (f109:Γ.fn 109=some fu) (yF:Γ.mt 109=none) (f112:Γ.fn 112=some fB) (aeo:Γ.mt 112=none)
 (f113:Γ.fn 113=some js) (atm:Γ.mt 113=none) (f115:Γ.fn 115=some jV) (aep:Γ.mt 115=none) (f114:Γ.fn 114=some fh) (JS:Γ.mt 114=none)
 (ds:List D) (h:gn.pre ds):bK Γ Pn Po ds fun d=>d=gn.res ds:=by
 obtain⟨x,y,rfl,aj,hy⟩:=h
 have ex:=mH aj
 have zi:=mH hy
 have c7:=l1 aj
 have gW:=l1 hy
 have aA:=sg aj
 have Wu:=sg hy
 by_cases h0:x.m=0
 ·have ar:dW x y=y:=by unfold dW;rw[if_pos h0]
  simp (maxSteps:=9^9) only[↓al,ak,simprocAttr,Pn,Po,gn,aV,ck,KS h0,ar]
 ·by_cases h1:y.m=0
  ·have ar:dW x y=x:=by unfold dW;rw[if_neg h0,if_pos h1]
   simp (maxSteps:=9^9) only[↓al,ak,simprocAttr,Pn,Po,gn,aV,ck,B0 h0,KS h1,ar]
  ·obtain⟨E,eO⟩:∃E,E=min x.e y.e:=⟨_,rfl⟩
   have iL:(if y.e<x.e then y.e else x.e)=E:=by split<;>omega
   obtain⟨X,jI⟩:∃X,X=x.m*2^(x.e - E).toNat:=⟨_,rfl⟩
   obtain⟨Y,jk⟩:∃Y,Y=y.m*2^(y.e - E).toNat:=⟨_,rfl⟩
   have ayq:a1 X≤200000:=by rw[jI,pE h0];omega
   have avB:a1 Y≤200000:=by rw[jk,pE h1];omega
   have ayr:=gh X
   have ays:=gh Y
   rw[gx]
   unfold Pn Po
   refine cB (fun s=>s.af 2= .box 2 0∧s.af 3= .box 3 0∧s.af 4= .box 4 0∧s.aA 2=some ⟨false,false,.cells [.d (.bool x.neg),.d (.ints .i64 (au x.m)),.d (.int .i64 x.e)]⟩∧s.aA 3=some ⟨false,false,.cells [.d (.bool y.neg),.d (.ints .i64 (au y.m)),.d (.int .i64 y.e)]⟩∧(∃bJ bu bs,s.aA 4=some ⟨false,false,.cells [bJ,bu,bs]⟩)) ?_ ?_
   ·simp (maxSteps:=9^9) only[↓al,ak,simprocAttr,aV]
    exact⟨_,_,_,rfl⟩
   rintro s ⟨h2,aq,aK,aW,a5,bJ,bu,bs,a9⟩
   refine cB (fun s=>s.af 2= .box 2 0∧s.af 3= .box 3 0∧s.af 4= .box 4 0∧s.aA 2=some ⟨false,false,.cells [.d (.bool x.neg),.d (.ints .i64 (au x.m)),.d (.int .i64 x.e)]⟩∧s.aA 3=some ⟨false,false,.cells [.d (.bool y.neg),.d (.ints .i64 (au y.m)),.d (.int .i64 y.e)]⟩∧(∃bJ bu bs,s.aA 4=some ⟨false,false,.cells [bJ,bu,bs]⟩)) ?_ ?_
   ·simp (maxSteps:=9^9) only[↓al,ak,simprocAttr,h2,aq,aK,aW,a5,a9,B0 h0]
    exact⟨_,_,_,rfl⟩
   clear h2 aq aK aW a5 a9
   rintro s ⟨h2,aq,aK,aW,a5,bJ,bu,bs,a9⟩
   refine cB (fun s=>s.af 2= .box 2 0∧s.af 3= .box 3 0∧s.af 4= .box 4 0∧s.aA 2=some ⟨false,false,.cells [.d (.bool x.neg),.d (.ints .i64 (au x.m)),.d (.int .i64 x.e)]⟩∧s.aA 3=some ⟨false,false,.cells [.d (.bool y.neg),.d (.ints .i64 (au y.m)),.d (.int .i64 y.e)]⟩∧(∃bJ bu bs,s.aA 4=some ⟨false,false,.cells [bJ,bu,bs]⟩)) ?_ ?_
   ·simp (maxSteps:=9^9) only[↓al,ak,simprocAttr,h2,aq,aK,aW,a5,a9,B0 h1]
    exact⟨_,_,_,rfl⟩
   clear h2 aq aK aW a5 a9
   rintro s ⟨h2,aq,aK,aW,a5,bJ,bu,bs,a9⟩
   refine cB (fun s=>s.af 5= .d (.int .i64 E)∧s.af 2= .box 2 0∧s.af 3= .box 3 0∧s.af 4= .box 4 0∧s.aA 2=some ⟨false,false,.cells [.d (.bool x.neg),.d (.ints .i64 (au x.m)),.d (.int .i64 x.e)]⟩∧s.aA 3=some ⟨false,false,.cells [.d (.bool y.neg),.d (.ints .i64 (au y.m)),.d (.int .i64 y.e)]⟩∧(∃bJ bu bs,s.aA 4=some ⟨false,false,.cells [bJ,bu,bs]⟩)) ?_ ?_
   ·simp (maxSteps:=9^9) only[↓al,ak,simprocAttr,h2,aq,aK,aW,a5,a9,iL]
    exact⟨_,_,_,rfl⟩
   clear h2 aq aK aW a5 a9
   rintro s ⟨aG,h2,aq,aK,aW,a5,bJ,bu,bs,a9⟩
   refine cB (fun s=>s.af 6= .d (.ints .i64 (au X))∧s.af 5= .d (.int .i64 E)∧s.af 2= .box 2 0∧s.af 3= .box 3 0∧s.af 4= .box 4 0∧s.aA 2=some ⟨false,false,.cells [.d (.bool x.neg),.d (.ints .i64 (au x.m)),.d (.int .i64 x.e)]⟩∧s.aA 3=some ⟨false,false,.cells [.d (.bool y.neg),.d (.ints .i64 (au y.m)),.d (.int .i64 y.e)]⟩∧(∃bJ bu bs,s.aA 4=some ⟨false,false,.cells [bJ,bu,bs]⟩)) ?_ ?_
   ·simp (maxSteps:=9^9) only[↓al,ak,simprocAttr,aG,h2,aq,aK,aW,a5,a9,f112,aeo,fB,bT,←jI]
    repeat (refine And.intro (by first|omega|(simp only[aI];omega)|(simp only[aI]at*;omega)|(simp only[List.length_append,List.length_cons,List.length_nil,List.length_set,b1];omega)) ?_)
    exact⟨⟨_,_,rfl,c4 _,by omega,by omega⟩,_,_,_,rfl⟩
   clear aG h2 aq aK aW a5 a9
   rintro s ⟨aM,aG,h2,aq,aK,aW,a5,bJ,bu,bs,a9⟩
   refine cB (fun s=>s.af 7= .d (.ints .i64 (au Y))∧s.af 6= .d (.ints .i64 (au X))∧s.af 5= .d (.int .i64 E)∧s.af 2= .box 2 0∧s.af 3= .box 3 0∧s.af 4= .box 4 0∧s.aA 2=some ⟨false,false,.cells [.d (.bool x.neg),.d (.ints .i64 (au x.m)),.d (.int .i64 x.e)]⟩∧s.aA 3=some ⟨false,false,.cells [.d (.bool y.neg),.d (.ints .i64 (au y.m)),.d (.int .i64 y.e)]⟩∧(∃bJ bu bs,s.aA 4=some ⟨false,false,.cells [bJ,bu,bs]⟩)) ?_ ?_
   ·simp (maxSteps:=9^9) only[↓al,ak,simprocAttr,aM,aG,h2,aq,aK,aW,a5,a9,f112,aeo,fB,bT,←jk]
    repeat (refine And.intro (by first|omega|(simp only[aI];omega)|(simp only[aI]at*;omega)|(simp only[List.length_append,List.length_cons,List.length_nil,List.length_set,b1];omega)) ?_)
    exact⟨⟨_,_,rfl,c4 _,by omega,by omega⟩,_,_,_,rfl⟩
   clear aM aG h2 aq aK aW a5 a9
   rintro s ⟨aS,aM,aG,h2,aq,aK,aW,a5,bJ,bu,bs,a9⟩
   by_cases bR:x.neg=y.neg
   ·have vO:(x.neg==y.neg)=true:=by simpa using bR
    have ar:dW x y=mk x.neg (X+Y) E:=by unfold dW;rw[if_neg h0,if_neg h1,if_pos bR,←eO,←jI,←jk]
    have At:=Cr X Y
    have ls:=A1 (n:=X+Y) (by omega)
    simp (maxSteps:=9^9) only[↓al,ak,simprocAttr,gn,aV,ck,ar,aS,aM,aG,h2,aq,aK,aW,a5,a9,f109,yF,fu,f113,atm,js,bT,vO]
    repeat (refine And.intro (by first|omega|(simp only[aI];omega)|(simp only[aI]at*;omega)|(simp only[List.length_append,List.length_cons,List.length_nil,List.length_set,b1];omega)) ?_)
    exact⟨⟨_,_,rfl,c4 _,c4 _,by omega,by omega⟩,⟨_,_,_,rfl,ls,by omega,by omega⟩⟩
   ·have vO:(x.neg==y.neg)=false:=by simpa using bR
    refine cB (fun s=>s.af 7= .d (.ints .i64 (au Y))∧s.af 6= .d (.ints .i64 (au X))∧s.af 5= .d (.int .i64 E)∧s.af 2= .box 2 0∧s.af 3= .box 3 0∧s.af 4= .box 4 0∧s.aA 2=some ⟨false,false,.cells [.d (.bool x.neg),.d (.ints .i64 (au x.m)),.d (.int .i64 x.e)]⟩∧s.aA 3=some ⟨false,false,.cells [.d (.bool y.neg),.d (.ints .i64 (au y.m)),.d (.int .i64 y.e)]⟩∧(∃bJ bu bs,s.aA 4=some ⟨false,false,.cells [bJ,bu,bs]⟩)) ?_ ?_
    ·simp (maxSteps:=9^9) only[↓al,ak,simprocAttr,aS,aM,aG,h2,aq,aK,aW,a5,a9,vO]
     exact⟨_,_,_,rfl⟩
    clear aS aM aG h2 aq aK aW a5 a9
    rintro s ⟨aS,aM,aG,h2,aq,aK,aW,a5,bJ,bu,bs,a9⟩
    have fV:fh.pre [.ints .i64 (au X),.ints .i64 (au Y)]:=⟨_,_,rfl,⟨_,rfl⟩,⟨_,rfl⟩,by omega,by omega⟩
    have avC:fh.pre [.ints .i64 (au Y),.ints .i64 (au X)]:=⟨_,_,rfl,⟨_,rfl⟩,⟨_,rfl⟩,by omega,by omega⟩
    have Cg:fh.own=false:=rfl
    have os:jV.own=false:=rfl
    have ps:jV.pre [.ints .i64 (au X),.ints .i64 (au Y)]:=fV
    have OT:jV.pre [.ints .i64 (au Y),.ints .i64 (au X)]:=avC
    by_cases bS:Y≤X
    ·have ar:dW x y=mk x.neg (X - Y) E:=by unfold dW;rw[if_neg h0,if_neg h1,if_neg bR,←eO,←jI,←jk,if_pos bS]
     have ls:=A1 (n:=X - Y) (by have:=tm (show X - Y≤X by omega);omega)
     have hj:¬X<Y:=by omega
     obtain⟨v,aB⟩:∃v,v=(if X<Y then (-1:Int)else if Y<X then 1 else 0):=⟨_,rfl⟩
     have KA:v≥0:=by rw[aB,if_neg hj];split<;>decide
     have rc:fh.res [.ints .i64 (au X),.ints .i64 (au Y)]= .int .i64 v:=by rw[aB];simp only[fh,bT]
     have rs:jV.res [.ints .i64 (au X),.ints .i64 (au Y)]= .du [.ints .i64 (au (X - Y)),.bool true]:=by simp only[jV,bT,if_neg hj,aZ]
     simp (maxSteps:=9^9) only[↓al,ak,simprocAttr,gn,aV,ck,ar,aS,aM,aG,h2,aq,aK,aW,a5,a9,f109,yF,fu,f115,aep,os,ps,rs,f114,JS,Cg,fV,rc,bT,KA]
     exact⟨_,_,_,rfl,ls,by omega,by omega⟩
    ·have ar:dW x y=mk y.neg (Y - X) E:=by unfold dW;rw[if_neg h0,if_neg h1,if_neg bR,←eO,←jI,←jk,if_neg bS]
     have ls:=A1 (n:=Y - X) (by have:=tm (show Y - X≤Y by omega);omega)
     have hj:X<Y:=by omega
     have rc:fh.res [.ints .i64 (au X),.ints .i64 (au Y)]= .int .i64 (-1):=by simp only[fh,bT,if_pos hj]
     have rs:jV.res [.ints .i64 (au Y),.ints .i64 (au X)]= .du [.ints .i64 (au (Y - X)),.bool true]:=by simp only[jV,bT,if_neg (show¬Y<X by omega),aZ]
     have KA:¬((-1:Int)≥0):=by decide
     simp (maxSteps:=9^9) only[↓al,ak,simprocAttr,gn,aV,ck,ar,aS,aM,aG,h2,aq,aK,aW,a5,a9,f109,yF,fu,f115,aep,os,OT,rs,f114,JS,Cg,fV,rc,bT,KA]
     exact⟨_,_,_,rfl,ls,by omega,by omega⟩
def gC:br where
 pre:=fun ds=>∃x y:a8,ds=[aV x,aV y]∧dj x∧dj y
 res:=fun ds=>match ds with
  |[p,q]=> .int .i64 (e4 (fj p) (fj q))
  |_=> .nilp
theorem RZ {x:a8} (h:dj x):dj (eQ x):=tn h
theorem K3 (Γ:Env) (f62:Γ.fn 62=some lE) (avD:Γ.mt 62=none) (f56:Γ.fn 56=some gn) (avE:Γ.mt 56=none) (f80:Γ.fn 80=some ql) (avF:Γ.mt 80=none)
 (ds:List D) (h:gC.pre ds):bK Γ agm agn ds fun d=>d=gC.res ds:=by
 obtain⟨x,y,rfl,aj,hy⟩:=h
 simp (maxSteps:=9^9) only[↓al,ak,simprocAttr,agm,agn,gC,aV,ck,f62,avD,lE,f56,avE,gn,f80,avF,ql,e4]
 exact⟨⟨y,rfl⟩,⟨x,eQ y,rfl,aj,RZ hy⟩,⟨dW x (eQ y),rfl⟩⟩
structure bQ where
 lo:a8
 hi:a8
deriving DecidableEq
def a2 (i:bQ):D:= .agg [.bool i.lo.neg,aZ i.lo.m,.int .i64 i.lo.e,.bool i.hi.neg,aZ i.hi.m,.int .i64 i.hi.e]
def hk:D→bQ
 | .agg [.bool a,.ints _ xs,.int _ e,.bool b,.ints _ aC,.int _ f]=>⟨⟨a,val xs,e⟩,⟨b,val aC,f⟩⟩
 |_=>⟨⟨false,0,0⟩,⟨false,0,0⟩⟩
theorem dY (x y:a8):hk (.agg [.bool x.neg,.ints .i64 (au x.m),.int .i64 x.e,.bool y.neg,.ints .i64 (au y.m),.int .i64 y.e])=⟨x,y⟩:=by
 simp only[hk,bT]
def k1 (i:bQ):Prop:=dj i.lo∧dj i.hi
def ev (a b:bQ):bQ:=⟨dW a.lo b.lo,dW a.hi b.hi⟩
def dG (a:bQ):bQ:=⟨eQ a.hi,eQ a.lo⟩
def yw (a:bQ):a8:=dW a.hi (eQ a.lo)
def tx (d:a8):bQ:=⟨d,d⟩
def EE (a b:bQ):Bool:=decide (e4 b.lo a.lo≤0) && decide (e4 a.hi b.hi≤0)
def lF:br where
 pre:=fun ds=>∃x y:bQ,ds=[a2 x,a2 y]∧k1 x∧k1 y
 res:=fun ds=>match ds with
  |[p,q]=>a2 (ev (hk p) (hk q))
  |_=> .nilp
theorem G2 (Γ:Env) (f84:Γ.fn 84=some kV) (K1:Γ.mt 84=none) (ds:List D) (h:lF.pre ds):bK Γ afT afU ds fun d=>d=lF.res ds:=by
 obtain⟨x,y,rfl,⟨gb,g2⟩,⟨jY,pg⟩⟩:=h
 simp (maxSteps:=9^9) only[↓al,ak,simprocAttr,afT,afU,lF,a2,dY,ev,f84,K1,kV,ck,aV]
 exact⟨⟨x.lo,y.lo,rfl,gb,jY⟩,⟨x.hi,y.hi,rfl,g2,pg⟩⟩
def jB:br where
 pre:=fun ds=>∃x:bQ,ds=[a2 x]∧k1 x
 res:=fun ds=>match ds with
  |[p]=>a2 (dG (hk p))
  |_=> .nilp
theorem G3 (Γ:Env) (f85:Γ.fn 85=some mJ) (K0:Γ.mt 85=none) (ds:List D) (h:jB.pre ds):bK Γ afR afS ds fun d=>d=jB.res ds:=by
 obtain⟨x,rfl,gb,g2⟩:=h
 simp (maxSteps:=9^9) only[↓al,ak,simprocAttr,afR,afS,jB,a2,dY,dG,f85,K0,mJ,ck,aV]
 exact⟨⟨x.hi,rfl,g2⟩,⟨x.lo,rfl,gb⟩⟩
def vQ:br where
 pre:=fun ds=>∃x:bQ,ds=[a2 x]∧k1 x
 res:=fun ds=>match ds with
  |[p]=>aV (yw (hk p))
  |_=> .nilp
theorem G4 (Γ:Env) (f85:Γ.fn 85=some mJ) (K0:Γ.mt 85=none) (f84:Γ.fn 84=some kV) (K1:Γ.mt 84=none) (ds:List D) (h:vQ.pre ds):bK Γ agy agz ds fun d=>d=vQ.res ds:=by
 obtain⟨x,rfl,gb,g2⟩:=h
 simp (maxSteps:=9^9) only[↓al,ak,simprocAttr,agy,agz,vQ,a2,dY,yw,f85,K0,mJ,f84,K1,kV,ck,aV]
 exact⟨⟨x.lo,rfl,gb⟩,⟨x.hi,eQ x.lo,rfl,g2,RZ gb⟩⟩
def sT:br where
 pre:=fun ds=>∃x:a8,ds=[aV x]∧dj x
 res:=fun ds=>match ds with
  |[p]=>a2 (tx (fj p))
  |_=> .nilp
theorem G5 (Γ:Env) (f82:Γ.fn 82=some hs) (B4:Γ.mt 82=none) (ds:List D) (h:sT.pre ds):bK Γ afu afv ds fun d=>d=sT.res ds:=by
 obtain⟨x,rfl,aj⟩:=h
 have aE:=Mh aj.1
 simp (maxSteps:=9^9) only[↓al,ak,simprocAttr,afu,afv,sT,a2,ck,tx,f82,B4,hs,aV,aE]
 exact⟨⟨x,0,rfl,aj,by omega,by omega⟩,⟨x,0,rfl,aj,by omega,by omega⟩⟩
def hB:br where
 pre:=fun ds=>∃x:a8,ds=[aV x]
 res:=fun ds=>match ds with
  |[p]=>a2 (tx (fj p))
  |_=> .nilp
theorem Vz (Γ:Env) (ds:List D) (h:hB.pre ds):bK Γ Vd afQ ds fun d=>d=hB.res ds:=by
 obtain⟨x,rfl⟩:=h
 simp (maxSteps:=9^9) only[↓al,ak,simprocAttr,Vd,afQ,hB,a2,ck,tx,aV]
def atn (b:Bool) (xs:List Int) (e:Int):Bool:=aso xs && (decide (xs.length≤60) && (if xs.length=0 then !b && decide (e=0)else decide (xs.getD 0 0 % 2=1) && (decide (-6000≤e) && decide (e≤6000))))
def C7 (up neg:Bool) (xs:List Int):List Int:=if up=neg then xs else au (val xs+1)
def o2:gu where
 pre:=fun a4 cs=>∃(up neg:Bool) (m:Nat) (aC:List Int) (e:Int),a4=[.d (.ints .i64 (au m)),.box bF 0,.box (bF+1) 0]∧cs=[.cells [.d (.bool up)],.cells [.d (.bool neg),.d (.ints .i64 aC),.d (.int .i64 e)]]∧(au m).length≤20000
 res:=fun a4 cs=>match a4,cs with
  |[.d (.ints _ xs),_,_],[.cells [.d (.bool up)],.cells [.d (.bool neg),_,_]]=> .ints .i64 (C7 up neg xs)
  |_,_=> .nilp
 out:=fun _ cs=>cs
theorem F3 (Γ:Env) (f134:Γ.fn 134=some h3) (TU:Γ.mt 134=none) (f133:Γ.fn 133=some ju) (JY:Γ.mt 133=none) (a4:List ag) (cs:List BC) (h:o2.pre a4 cs):l7 Γ TM TN a4 cs fun d cs'=>d=o2.res a4 cs∧cs'=o2.out a4 cs:=by
 obtain⟨up,neg,m,aC,e,rfl,rfl,aH⟩:=h
 cases ay:(up==neg)with
 |true=>
  have ar:C7 up neg (au m)=au m:=by unfold C7;rw[if_pos (by simpa using ay)]
  simp (maxSteps:=9^9) only[↓al,ak,simprocAttr,dy,bF,TM,TN,o2,ar,ay]
 |false=>
  have ar:C7 up neg (au m)=au (m+1):=by unfold C7;rw[if_neg (by simpa using ay),bT]
  have h1:(1:Int).toNat=1:=rfl
  have cI:au 1=[1]:=by decide+kernel
  simp (maxSteps:=9^9) only[↓al,ak,simprocAttr,dy,bF,TM,TN,o2,ar,ay,f134,TU,h3,f133,JY,ju,bT,h1]
  refine⟨⟨1,rfl,by simp only[aI];omega⟩,⟨_,_,rfl,c4 _,c4 _,aH,?_⟩⟩
  rw[cI];decide
def ph:br where
 pre:=fun ds=>∃(x:a8) (n:Int) (up:Bool),ds=[aV x,.int .i64 n,.bool up]∧dj x∧0≤n∧n≤100000
 res:=fun ds=>match ds with
  |[p,.int _ n,.bool up]=>aV (gM (fj p) n up)
  |_=> .nilp
theorem G6 (Γ:Env) (f128:Γ.fn 128=some gN) (C4:Γ.mt 128=none) (f82:Γ.fn 82=some hs) (B4:Γ.mt 82=none)
 (f143:Γ.fn 143=some il) (TS:Γ.mt 143=none) (ato:Γ.mt 142=some o2) (f135:Γ.fn 135=some e9) (rb:Γ.mt 135=none)
 (ds:List D) (h:ph.pre ds):bK Γ U9 Va ds fun d=>d=ph.res ds:=by
 obtain⟨x,n,up,rfl,aj,eS,kT⟩:=h
 have ex:=mH aj
 have c7:=l1 aj
 have aA:=sg aj
 by_cases ad:(a1 x.m:Int) - n≤0
 ·have ar:gM x n up=x:=by unfold gM;rw[if_pos ad]
  have ayt:hs.own=false:=rfl
  have iA:hs.pre [.agg [.bool x.neg,.ints .i64 (au x.m),.int .i64 x.e],.int .i64 0]:=⟨x,0,rfl,aj,by omega,by omega⟩
  have ic:hs.res [.agg [.bool x.neg,.ints .i64 (au x.m),.int .i64 x.e],.int .i64 0]= .agg [.bool x.neg,.ints .i64 (au x.m),.int .i64 x.e]:=by
   simp only[hs,ck,Mh aj.1,aV,aZ]
  have ayu:gN.own=false:=rfl
  have ie:gN.pre [.ints .i64 (au x.m)]:=⟨x.m,rfl,by omega⟩
  have hl:gN.res [.ints .i64 (au x.m)]= .int .i64 (a1 x.m):=by simp only[gN,bT]
  rw[gx]
  unfold U9 Va
  refine cB (fun s=>s.af 1= .d (.int .i64 n)∧s.af 3= .box 3 0∧s.aA 3=some ⟨false,false,.cells [.d (.bool x.neg),.d (.ints .i64 (au x.m)),.d (.int .i64 x.e)]⟩∧s.af 6= .box 6 0∧(∃bJ bu bs,s.aA 6=some ⟨false,false,.cells [bJ,bu,bs]⟩)) ?_ ?_
  ·simp (maxSteps:=9^9) only[↓al,ak,simprocAttr,aV]
   exact⟨_,_,_,rfl⟩
  rintro s ⟨h1,aq,a5,aM,bJ,bu,bs,aY⟩
  refine cB (fun s=>s.af 7= .d (.int .i64 ((a1 x.m:Int) - n))∧s.af 3= .box 3 0∧s.aA 3=some ⟨false,false,.cells [.d (.bool x.neg),.d (.ints .i64 (au x.m)),.d (.int .i64 x.e)]⟩∧s.af 6= .box 6 0∧(∃bJ bu bs,s.aA 6=some ⟨false,false,.cells [bJ,bu,bs]⟩)) ?_ ?_
  ·simp (maxSteps:=9^9) only[↓al,ak,simprocAttr,h1,aq,a5,aM,aY,f128,C4,ayu,ie,hl]
   repeat (refine And.intro (by first|omega|(simp only[aI];omega)|(simp only[aI]at*;omega)|(simp only[List.length_append,List.length_cons,List.length_nil,List.length_set,b1];omega)) ?_)
   exact⟨_,_,_,rfl⟩
  clear h1 aq a5 aM aY
  rintro s ⟨aS,aq,a5,aM,bJ,bu,bs,aY⟩
  simp (maxSteps:=9^9) only[↓al,ak,simprocAttr,ph,aV,ck,ar,aS,aq,a5,aM,aY,ad,f82,B4,ayt,iA,ic]
 ·obtain⟨k,qi⟩:∃k:Nat,(a1 x.m:Int) - n=k:=⟨((a1 x.m:Int) - n).toNat,by omega⟩
  have cE:¬(k:Int)≤0:=by omega
  obtain⟨M,cp⟩:∃M,M=x.m / 2^k:=⟨_,rfl⟩
  have aE:=Es x.m k
  rw[←cp]at aE
  have Qc:=gh M
  have mI:il.res [.ints .i64 (au x.m),.int .i64 k]= .ints .i64 (au M):=by simp only[il,bT,Int.toNat_natCast,←cp,aZ]
  have G0:il.pre [.ints .i64 (au x.m),.int .i64 k]:=⟨_,_,rfl,c4 _,by omega,by simp only[aI];omega⟩
  have PE:il.own=false:=rfl
  obtain⟨lQ,sU⟩:∃lQ,lQ=M+(if up=x.neg then 0 else 1):=⟨_,rfl⟩
  have avG:a1 lQ≤a1 M+2:=by
   have:=Cr M (if up=x.neg then 0 else 1)
   have h1:a1 (if up=x.neg then 0 else 1)≤1:=by split<;>decide
   rw[←sU]at this
   omega
  have avH:=gh lQ
  have ay:C7 up x.neg (au M)=au lQ:=by
   unfold C7
   rw[sU,bT]
   split<;>rfl
  have ar:gM x n up=mk x.neg lQ (x.e+k):=by
   unfold gM
   rw[if_neg ad,qi,Int.toNat_natCast,←cp,←sU]
  rw[gx]
  unfold U9 Va
  refine cB (fun s=>s.af 1= .d (.int .i64 n)∧s.af 3= .box 3 0∧s.aA 3=some ⟨false,false,.cells [.d (.bool x.neg),.d (.ints .i64 (au x.m)),.d (.int .i64 x.e)]⟩∧s.af 5= .box 5 0∧s.aA 5=some ⟨false,false,.cells [.d (.bool up)]⟩∧s.af 6= .box 6 0∧(∃bJ bu bs,s.aA 6=some ⟨false,false,.cells [bJ,bu,bs]⟩)) ?_ ?_
  ·simp (maxSteps:=9^9) only[↓al,ak,simprocAttr,aV]
   exact⟨_,_,_,rfl⟩
  rintro s ⟨h1,aq,a5,aG,bq,aM,bJ,bu,bs,aY⟩
  refine cB (fun s=>s.af 7= .d (.int .i64 k)∧s.af 3= .box 3 0∧s.aA 3=some ⟨false,false,.cells [.d (.bool x.neg),.d (.ints .i64 (au x.m)),.d (.int .i64 x.e)]⟩∧s.af 5= .box 5 0∧s.aA 5=some ⟨false,false,.cells [.d (.bool up)]⟩∧s.af 6= .box 6 0∧(∃bJ bu bs,s.aA 6=some ⟨false,false,.cells [bJ,bu,bs]⟩)) ?_ ?_
  ·simp (maxSteps:=9^9) only[↓al,ak,simprocAttr,h1,aq,a5,aG,bq,aM,aY,f128,C4,gN,bT,qi]
   refine⟨⟨x.m,rfl,by omega⟩,?_⟩
   repeat (refine And.intro (by first|omega|(simp only[aI];omega)|(simp only[aI]at*;omega)|(simp only[List.length_append,List.length_cons,List.length_nil,List.length_set,b1];omega)) ?_)
   exact⟨_,_,_,rfl⟩
  clear h1 aq a5 aG bq aM aY
  rintro s ⟨aS,aq,a5,aG,bq,aM,bJ,bu,bs,aY⟩
  refine cB (fun s=>s.af 7= .d (.int .i64 k)∧s.af 3= .box 3 0∧s.aA 3=some ⟨false,false,.cells [.d (.bool x.neg),.d (.ints .i64 (au x.m)),.d (.int .i64 x.e)]⟩∧s.af 5= .box 5 0∧s.aA 5=some ⟨false,false,.cells [.d (.bool up)]⟩∧s.af 6= .box 6 0∧(∃bJ bu bs,s.aA 6=some ⟨false,false,.cells [bJ,bu,bs]⟩)) ?_ ?_
  ·simp (maxSteps:=9^9) only[↓al,ak,simprocAttr,aS,aq,a5,aG,bq,aM,aY,cE]
   exact⟨_,_,_,rfl⟩
  clear aS aq a5 aG bq aM aY
  rintro s ⟨aS,aq,a5,aG,bq,aM,bJ,bu,bs,aY⟩
  refine cB (fun s=>s.af 8= .dk 142 [] [.box 5 0,.box 3 0]∧s.af 7= .d (.int .i64 k)∧s.af 3= .box 3 0∧s.aA 3=some ⟨false,false,.cells [.d (.bool x.neg),.d (.ints .i64 (au x.m)),.d (.int .i64 x.e)]⟩∧s.af 5= .box 5 0∧s.aA 5=some ⟨false,false,.cells [.d (.bool up)]⟩∧s.af 6= .box 6 0∧(∃bJ bu bs,s.aA 6=some ⟨false,false,.cells [bJ,bu,bs]⟩)) ?_ ?_
  ·simp (maxSteps:=9^9) only[↓al,ak,simprocAttr,aS,aq,a5,aG,bq,aM,aY,cE]
   exact⟨_,_,_,rfl⟩
  clear aS aq a5 aG bq aM aY
  rintro s ⟨bn,aS,aq,a5,aG,bq,aM,bJ,bu,bs,aY⟩
  have avI:o2.pre [.d (.ints .i64 (au M)),.box 1000000 0,.box 1000001 0] [.cells [.d (.bool up)],.cells [.d (.bool x.neg),.d (.ints .i64 (au x.m)),.d (.int .i64 x.e)]]:=⟨up,x.neg,M,_,_,rfl,rfl,by omega⟩
  have avJ:∀a4 cs,o2.out a4 cs=cs:=fun _ _=>rfl
  have avK:o2.res [.d (.ints .i64 (au M)),.box 1000000 0,.box 1000001 0] [.cells [.d (.bool up)],.cells [.d (.bool x.neg),.d (.ints .i64 (au x.m)),.d (.int .i64 x.e)]]= .ints .i64 (au lQ):=by simp only[o2,ay]
  have avL:e9.own=false:=rfl
  have K4:e9.pre [.bool x.neg,.ints .i64 (au lQ),.int .i64 (x.e+k)]:=⟨_,_,_,rfl,by omega,by omega,by omega⟩
  have K5:e9.res [.bool x.neg,.ints .i64 (au lQ),.int .i64 (x.e+k)]=aV (mk x.neg lQ (x.e+k)):=by simp only[e9,bT]
  simp (maxSteps:=9^9) only[↓al,ak,simprocAttr,dy,bF,ph,aV,ck,ar,bn,aS,aq,a5,aG,bq,aM,aY,f143,TS,PE,G0,mI,ato,avI,avJ,avK,f135,rb,avL,K4,K5]
  first|done|omega|(repeat (refine And.intro (by first|omega|(simp only[aI];omega)|(simp only[aI]at*;omega)|(simp only[List.length_append,List.length_cons,List.length_nil,List.length_set,b1];omega)) ?_);first|done|omega)
def vR:br where
 pre:=fun ds=>∃(x:a8) (b:Bool) (k:Int),ds=[aV x,.bool b,.ptr [.int .i64 k]]∧dj x∧-100000≤k∧k≤100000
 res:=fun ds=>match ds with
  |[p,_,.ptr [.int _ k]]=>aV (gi (fj p) k)
  |_=> .nilp
theorem G7 (Γ:Env) (f82:Γ.fn 82=some hs) (B4:Γ.mt 82=none) (ds:List D) (h:vR.pre ds):bK Γ agT agU ds fun d=>d=vR.res ds:=by
 obtain⟨x,b,k,rfl,aj,ad,cE⟩:=h
 simp (maxSteps:=9^9) only[↓al,ak,simprocAttr,agT,agU,vR,aV,ck,f82,B4,hs]
 exact⟨x,k,rfl,aj,ad,cE⟩
def vS:br where
 pre:=fun ds=>∃(x:a8) (b:Bool) (k:Int),ds=[aV x,.bool b,.ptr [.int .i64 k]]∧dj x∧0≤k∧k≤100000
 res:=fun ds=>match ds with
  |[p,.bool b,.ptr [.int _ k]]=>aV (gM (fj p) k b)
  |_=> .nilp
theorem G8 (Γ:Env) (f91:Γ.fn 91=some ph) (PG:Γ.mt 91=none) (ds:List D) (h:vS.pre ds):bK Γ agV agW ds fun d=>d=vS.res ds:=by
 obtain⟨x,b,k,rfl,aj,ad,cE⟩:=h
 simp (maxSteps:=9^9) only[↓al,ak,simprocAttr,agV,agW,vS,aV,ck,f91,PG,ph]
 exact⟨x,k,b,rfl,aj,ad,cE⟩
def gI (x:a8) (n:Int):Int:=max (2*n+4 - a1 x.m) 0+(x.e - max (2*n+4 - a1 x.m) 0) % 2
def cU (M:Nat):Nat:=if a7 M*a7 M<M then 2*a7 M+1 else 2*a7 M
def eA (x:a8) (n:Int) (up:Bool):a8:=gM (mk false (cU (x.m*2^(gI x n).toNat)) ((x.e - gI x n) / 2 - 1)) n up
theorem RB (M:Nat):a1 (a7 M)≤(a1 M+1) / 2:=by
 rw[ho]
 refine aaB (Nat.lt_of_lt_of_le (kG M) ?_)
 rw[←Nat.pow_add]
 exact Nat.pow_le_pow_right (by decide) (by omega)
theorem Mw (M:Nat):a1 (cU M)≤(a1 M+1) / 2+1:=by
 have h:=RB M
 rw[ho]at h⊢
 unfold cU
 rw[Nat.pow_succ]
 split<;>omega
theorem Cu:cU 0=0:=by unfold cU;rw[M4];rfl
theorem Ia {x:a8} {n:Int} (aJ:0≤n):0≤gI x n∧gI x n≤2*n+5:=by unfold gI;omega
theorem Ij (x:a8) (n:Int):x.e - gI x n=2*((x.e - gI x n) / 2):=by unfold gI;omega
theorem Zt {x:a8} (aj:dj x) {n:Int} (aJ:0≤n) (kT:n≤1000):dj (mk false (cU (x.m*2^(gI x n).toNat)) ((x.e - gI x n) / 2 - 1)):=by
 refine sf fun cy=> ?_
 have h0:x.m≠0:=fun e=>cy (by rw[e,Nat.zero_mul,Cu])
 have hw:=aj.2 h0
 have ad:=Ia (x:=x) aJ
 have he:=Ij x n
 have aw:=Mw (x.m*2^(gI x n).toNat)
 rw[pE h0]at aw
 omega
def uD:br where
 pre:=fun ds=>∃(x:a8) (n:Int) (up:Bool),ds=[aV x,.int .i64 n,.bool up]∧dj x∧0≤n∧n≤1000
 res:=fun ds=>match ds with
  |[p,.int _ n,.bool up]=>aV (eA (fj p) n up)
  |_=> .nilp
theorem G9 (Γ:Env) (f128:Γ.fn 128=some gN) (C4:Γ.mt 128=none) (f129:Γ.fn 129=some hp) (OA:Γ.mt 129=none) (f130:Γ.fn 130=some ra) (aeq:Γ.mt 130=none)
 (f131:Γ.fn 131=some iJ) (JX:Γ.mt 131=none) (f132:Γ.fn 132=some o0) (OB:Γ.mt 132=none) (f134:Γ.fn 134=some h3) (TU:Γ.mt 134=none) (f133:Γ.fn 133=some ju) (JY:Γ.mt 133=none)
 (f135:Γ.fn 135=some e9) (rb:Γ.mt 135=none) (f91:Γ.fn 91=some ph) (PG:Γ.mt 91=none) (ds:List D) (h:uD.pre ds):bK Γ afI afJ ds fun d=>d=uD.res ds:=by
 obtain⟨x,n,up,rfl,aj,eS,kT⟩:=h
 have ex:=mH aj
 have c7:=l1 aj
 have aA:=sg aj
 have ux:=Ia (x:=x) eS
 have DH:=Ij x n
 have hW:=Zt aj eS kT
 obtain⟨jK,VA⟩:∃jK,jK=max (2*n+4 - (a1 x.m:Int)) 0:=⟨_,rfl⟩
 have B2:(if (0:Int)>2*n+4 - a1 x.m then 0 else 2*n+4 - (a1 x.m:Int))=jK:=by split<;>omega
 have b9:gI x n=jK+(x.e - jK) % 2:=by unfold gI;rw[←VA]
 obtain⟨k,ad⟩:∃k:Nat,gI x n=k:=⟨(gI x n).toNat,by omega⟩
 have qi:jK+(x.e - jK) % 2=(k:Int):=by omega
 obtain⟨M,cp⟩:∃M,M=x.m*2^k:=⟨_,rfl⟩
 obtain⟨q,aO⟩:∃q,q=(x.e - k) / 2:=⟨_,rfl⟩
 rw[ad]at DH ux hW
 rw[Int.toNat_natCast,←cp]at hW
 rw[←aO]at DH hW
 have K6:(x.e - (k:Int)).tdiv 2=q:=by rw[DH];exact Int.mul_tdiv_cancel_left _ (by decide)
 have ar:eA x n up=gM (mk false (cU M) (q - 1)) n up:=by unfold eA;rw[ad,Int.toNat_natCast,←cp,←aO]
 have ayv:a1 M≤a1 x.m+k:=by
  by_cases h0:x.m=0
  ·rw[cp,h0,Nat.zero_mul,pC];omega
  ·rw[cp,pE h0];omega
 have Qc:=gh M
 have ajj:=RB M
 have LN:=gh (a7 M)
 have LO:=Mw M
 have Wv:=gh (cU M)
 have avM:=Cs (a7 M) (a7 M)
 have avN:=gh (a7 M*a7 M)
 have ahb:hp.own=false:=rfl
 have K7:hp.pre [.ints .i64 (au x.m),.int .i64 k]:=⟨_,_,rfl,c4 _,by omega,by omega⟩
 have K8:hp.res [.ints .i64 (au x.m),.int .i64 k]= .ints .i64 (au M):=by simp only[hp,bT,Int.toNat_natCast,←cp,aZ]
 have OD:hp.pre [.ints .i64 (au (a7 M)),.int .i64 1]:=⟨_,_,rfl,c4 _,by omega,by omega⟩
 have OE:hp.res [.ints .i64 (au (a7 M)),.int .i64 1]= .ints .i64 (au (2*a7 M)):=by
  simp only[hp,bT,aZ]
  rw[show a7 M*2^(1:Int).toNat=2*a7 M by rw[show (1:Int).toNat=1 from rfl];omega]
 have ahc:ra.own=false:=rfl
 have K9:ra.pre [.ints .i64 (au M)]:=⟨M,rfl,by omega⟩
 have La:ra.res [.ints .i64 (au M)]= .ints .i64 (au (a7 M)):=by simp only[ra,bT,aZ]
 have ahd:o0.own=false:=rfl
 have Lb:o0.pre [.ints .i64 (au (a7 M)),.ints .i64 (au (a7 M))]:=⟨_,_,rfl,c4 _,c4 _,by omega,by omega⟩
 have Lc:o0.res [.ints .i64 (au (a7 M)),.ints .i64 (au (a7 M))]= .ints .i64 (au (a7 M*a7 M)):=by simp only[o0,bT,aZ]
 have ahe:iJ.own=false:=rfl
 have ahf:iJ.pre [.ints .i64 (au (a7 M*a7 M)),.ints .i64 (au M)]:=⟨_,_,rfl,by omega,by omega⟩
 have DI:e9.pre [.bool false,.ints .i64 (au (cU M)),.int .i64 (q - 1)]:=⟨_,_,_,rfl,by omega,by omega,by omega⟩
 have ahg:e9.own=false:=rfl
 have Ab:e9.res [.bool false,.ints .i64 (au (cU M)),.int .i64 (q - 1)]=aV (mk false (cU M) (q - 1)):=by simp only[e9,bT]
 have PH:ph.pre [.agg [.bool (mk false (cU M) (q - 1)).neg,.ints .i64 (au (mk false (cU M) (q - 1)).m),.int .i64 (mk false (cU M) (q - 1)).e],.int .i64 n,.bool up]:=⟨_,_,_,rfl,hW,eS,by omega⟩
 rw[gx]
 unfold afI afJ
 refine cB (fun s=>s.af 1= .d (.int .i64 n)∧s.af 2= .d (.bool up)∧s.af 3= .box 3 0∧s.aA 3=some ⟨false,false,.cells [.d (.bool x.neg),.d (.ints .i64 (au x.m)),.d (.int .i64 x.e)]⟩∧s.af 6= .box 6 0∧(∃bJ bu bs,s.aA 6=some ⟨false,false,.cells [bJ,bu,bs]⟩)) ?_ ?_
 ·simp (maxSteps:=9^9) only[↓al,ak,simprocAttr,aV]
  exact⟨_,_,_,rfl⟩
 rintro s ⟨h1,h2,aq,a5,aM,bJ,bu,bs,aY⟩
 refine cB (fun s=>s.af 7= .d (.int .i64 jK)∧s.af 1= .d (.int .i64 n)∧s.af 2= .d (.bool up)∧s.af 3= .box 3 0∧s.aA 3=some ⟨false,false,.cells [.d (.bool x.neg),.d (.ints .i64 (au x.m)),.d (.int .i64 x.e)]⟩∧s.af 6= .box 6 0∧(∃bJ bu bs,s.aA 6=some ⟨false,false,.cells [bJ,bu,bs]⟩)) ?_ ?_
 ·simp (maxSteps:=9^9) only[↓al,ak,simprocAttr,h1,h2,aq,a5,aM,aY,f128,C4,gN,bT,B2]
  repeat (refine And.intro (by first|omega|(simp only[aI];omega)|(simp only[aI]at*;omega)|(simp only[List.length_append,List.length_cons,List.length_nil,List.length_set,b1];omega)) ?_)
  refine⟨⟨x.m,rfl,by omega⟩,?_⟩
  repeat (refine And.intro (by first|omega|(simp only[aI];omega)|(simp only[aI]at*;omega)|(simp only[List.length_append,List.length_cons,List.length_nil,List.length_set,b1];omega)) ?_)
  exact⟨_,_,_,rfl⟩
 clear h1 h2 aq a5 aM aY
 rintro s ⟨aS,h1,h2,aq,a5,aM,bJ,bu,bs,aY⟩
 refine cB (fun s=>s.af 7= .d (.int .i64 k)∧s.af 1= .d (.int .i64 n)∧s.af 2= .d (.bool up)∧s.af 3= .box 3 0∧s.aA 3=some ⟨false,false,.cells [.d (.bool x.neg),.d (.ints .i64 (au x.m)),.d (.int .i64 x.e)]⟩∧s.af 6= .box 6 0∧(∃bJ bu bs,s.aA 6=some ⟨false,false,.cells [bJ,bu,bs]⟩)) ?_ ?_
 ·simp (maxSteps:=9^9) only[↓al,ak,simprocAttr,aS,h1,h2,aq,a5,aM,aY,Rz,qi]
  repeat (refine And.intro (by first|omega|(simp only[aI];omega)|(simp only[aI]at*;omega)|(simp only[List.length_append,List.length_cons,List.length_nil,List.length_set,b1];omega)) ?_)
  exact⟨_,_,_,rfl⟩
 clear aS h1 h2 aq a5 aM aY
 rintro s ⟨aS,h1,h2,aq,a5,aM,bJ,bu,bs,aY⟩
 by_cases ay:a7 M*a7 M<M
 ·have cy:cU M=2*a7 M+1:=by unfold cU;rw[if_pos ay]
  have VB:iJ.res [.ints .i64 (au (a7 M*a7 M)),.ints .i64 (au M)]= .int .i64 (-1):=by simp only[iJ,bT,IK ay]
  have aW:a1 (2*a7 M)≤a1 (cU M):=tm (by omega)
  have dS:=gh (2*a7 M)
  have avO:ju.own=false:=rfl
  have pad:ju.pre [.ints .i64 (au (2*a7 M)),.ints .i64 (au 1)]:=⟨_,_,rfl,c4 _,c4 _,by omega,by rw[show au 1=[1]by decide+kernel];decide⟩
  have VC:ju.res [.ints .i64 (au (2*a7 M)),.ints .i64 (au 1)]= .ints .i64 (au (cU M)):=by simp only[ju,bT,aZ,cy]
  have avP:h3.own=false:=rfl
  have avQ:h3.pre [.int .i64 1]:=⟨1,rfl,by simp only[aI];omega⟩
  have avR:h3.res [.int .i64 1]= .ints .i64 (au 1):=rfl
  simp (maxSteps:=9^9) only[↓al,ak,simprocAttr,uD,aV,ck,ar,aS,h1,h2,aq,a5,aM,aY,f129,OA,ahb,K7,K8,f130,aeq,ahc,K9,La,OD,OE,f132,OB,ahd,Lb,Lc,f131,JX,ahe,ahf,VB,f134,TU,avP,avQ,avR,f133,JY,avO,pad,VC,K6,f135,rb,ahg,DI,Ab,f91,PG,ph]
  repeat (refine And.intro (by first|omega|(simp only[aI];omega)|(simp only[aI]at*;omega)|(simp only[List.length_append,List.length_cons,List.length_nil,List.length_set,b1];omega)) ?_)
  exact⟨_,_,_,rfl,hW,eS,by omega⟩
 ·have cy:cU M=2*a7 M:=by unfold cU;rw[if_neg ay]
  have sN:a7 M*a7 M=M∨M<a7 M*a7 M:=by omega
  have heq:a7 M*a7 M=M:=by have:=(oL M).1;omega
  have VB:iJ.res [.ints .i64 (au (a7 M*a7 M)),.ints .i64 (au M)]= .int .i64 0:=by simp only[iJ,bT,heq,IL]
  rw[cy]at DI Ab PH Wv LO hW ar
  simp (maxSteps:=9^9) only[↓al,ak,simprocAttr,uD,aV,ck,ar,aS,h1,h2,aq,a5,aM,aY,f129,OA,ahb,K7,K8,f130,aeq,ahc,K9,La,OD,OE,f132,OB,ahd,Lb,Lc,f131,JX,ahe,ahf,VB,K6,f135,rb,ahg,DI,Ab,f91,PG,ph]
  repeat (refine And.intro (by first|omega|(simp only[aI];omega)|(simp only[aI]at*;omega)|(simp only[List.length_append,List.length_cons,List.length_nil,List.length_set,b1];omega)) ?_)
  exact⟨_,_,_,rfl,hW,eS,by omega⟩
def vT:br where
 pre:=fun ds=>∃(x:a8) (b:Bool) (k:Int),ds=[aV x,.bool b,.ptr [.int .i64 k]]∧dj x∧0≤k∧k≤1000
 res:=fun ds=>match ds with
  |[p,.bool b,.ptr [.int _ k]]=>aV (eA (fj p) k b)
  |_=> .nilp
theorem Ha (Γ:Env) (f79:Γ.fn 79=some uD) (avS:Γ.mt 79=none) (ds:List D) (h:vT.pre ds):bK Γ agP agQ ds fun d=>d=vT.res ds:=by
 obtain⟨x,b,k,rfl,aj,ad,cE⟩:=h
 simp (maxSteps:=9^9) only[↓al,ak,simprocAttr,agP,agQ,vT,aV,ck,f79,avS,uD]
 exact⟨x,k,b,rfl,aj,ad,cE⟩
def rf (f:Nat) (k:Int) (x:a8) (up:Bool):a8:=if f=86 then gi x k else if f=90 then gM x k up else eA x k up
def mK:br where
 pre:=fun ds=>∃(x:bQ) (f:Nat) (k:Int),ds=[a2 x,.fn f [] [.ptr [.int .i64 k]]]∧k1 x∧((f=86∧-100000≤k∧k≤100000)∨(f=90∧0≤k∧k≤100000)∨(f=78∧0≤k∧k≤1000))
 res:=fun ds=>match ds with
  |[p,.fn f _ [.ptr [.int _ k]]]=>a2 ⟨rf f k (hk p).lo false,rf f k (hk p).hi true⟩
  |_=> .nilp
theorem Hb (Γ:Env) (f86:Γ.fn 86=some vR) (avT:Γ.mt 86=none) (f90:Γ.fn 90=some vS) (avU:Γ.mt 90=none) (f78:Γ.fn 78=some vT) (avV:Γ.mt 78=none) (ds:List D) (h:mK.pre ds):bK Γ Pv Pw ds fun d=>d=mK.res ds:=by
 obtain⟨x,f,k,rfl,⟨gb,g2⟩,⟨rfl,h1,h2⟩|⟨rfl,h1,h2⟩|⟨rfl,h1,h2⟩⟩:=h
 ·have e:∀y b,rf 86 k y b=gi y k:=fun y b=>by unfold rf;rw[if_pos rfl]
  simp (maxSteps:=9^9) only[↓al,ak,simprocAttr,Pv,Pw,mK,a2,dY,e,f86,avT,vR,aV,ck]
  exact⟨⟨x.lo,false,k,rfl,gb,h1,h2⟩,⟨x.hi,true,k,rfl,g2,h1,h2⟩⟩
 ·have e:∀y b,rf 90 k y b=gM y k b:=fun y b=>by unfold rf;rw[if_neg (by decide),if_pos rfl]
  simp (maxSteps:=9^9) only[↓al,ak,simprocAttr,Pv,Pw,mK,a2,dY,e,f90,avU,vS,aV,ck]
  exact⟨⟨x.lo,false,k,rfl,gb,h1,h2⟩,⟨x.hi,true,k,rfl,g2,h1,h2⟩⟩
 ·have e:∀y b,rf 78 k y b=eA y k b:=fun y b=>by unfold rf;rw[if_neg (by decide),if_neg (by decide)]
  simp (maxSteps:=9^9) only[↓al,ak,simprocAttr,Pv,Pw,mK,a2,dY,e,f78,avV,vT,aV,ck]
  exact⟨⟨x.lo,false,k,rfl,gb,h1,h2⟩,⟨x.hi,true,k,rfl,g2,h1,h2⟩⟩
def g6 (a:bQ) (k:Int):bQ:=⟨gi a.lo k,gi a.hi k⟩
def qb (a:bQ) (n:Int):bQ:=⟨gM a.lo n false,gM a.hi n true⟩
def tE (a:bQ) (n:Int):bQ:=⟨eA a.lo n false,eA a.hi n true⟩
def sV:br where
 pre:=fun ds=>∃(x:bQ) (k:Int),ds=[a2 x,.int .i64 k]∧k1 x∧-100000≤k∧k≤100000
 res:=fun ds=>match ds with
  |[p,.int _ k]=>a2 (g6 (hk p) k)
  |_=> .nilp
theorem Hc (Γ:Env) (f77:Γ.fn 77=some mK) (Ld:Γ.mt 77=none) (ds:List D) (h:sV.pre ds):bK Γ agA agB ds fun d=>d=sV.res ds:=by
 obtain⟨x,k,rfl,aj,h1,h2⟩:=h
 have e:∀y b,rf 86 k y b=gi y k:=fun y b=>by unfold rf;rw[if_pos rfl]
 simp (maxSteps:=9^9) only[↓al,ak,simprocAttr,agA,agB,sV,a2,dY,e,g6,f77,Ld,mK]
 exact⟨x,_,k,rfl,aj,.inl ⟨rfl,h1,h2⟩⟩
def vU:br where
 pre:=fun ds=>∃(x:bQ) (k:Int),ds=[a2 x,.int .i64 k]∧k1 x∧0≤k∧k≤100000
 res:=fun ds=>match ds with
  |[p,.int _ k]=>a2 (qb (hk p) k)
  |_=> .nilp
theorem Hd (Γ:Env) (f77:Γ.fn 77=some mK) (Ld:Γ.mt 77=none) (ds:List D) (h:vU.pre ds):bK Γ afV afW ds fun d=>d=vU.res ds:=by
 obtain⟨x,k,rfl,aj,h1,h2⟩:=h
 have e:∀y b,rf 90 k y b=gM y k b:=fun y b=>by unfold rf;rw[if_neg (by decide),if_pos rfl]
 simp (maxSteps:=9^9) only[↓al,ak,simprocAttr,afV,afW,vU,a2,dY,e,qb,f77,Ld,mK]
 exact⟨x,_,k,rfl,aj,.inr (.inl ⟨rfl,h1,h2⟩)⟩
def sn (x:bQ) (n:Int):D:=if ik x.lo<0 then .du [a2 ⟨⟨false,0,0⟩,⟨false,0,0⟩⟩,.bool false]else .du [a2 (tE x n),.bool true]
def rR:br where
 pre:=fun ds=>∃(x:bQ) (k:Int),ds=[a2 x,.int .i64 k]∧k1 x∧0≤k∧k≤1000
 res:=fun ds=>match ds with
  |[p,.int _ k]=>sn (hk p) k
  |_=> .nilp
theorem He (Γ:Env) (f77:Γ.fn 77=some mK) (Ld:Γ.mt 77=none) (f76:Γ.fn 76=some pf) (PF:Γ.mt 76=none) (ds:List D) (h:rR.pre ds):bK Γ Vb Vc ds fun d=>d=rR.res ds:=by
 obtain⟨x,k,rfl,aj,h1,h2⟩:=h
 have lN:au 0=[]:=by decide+kernel
 have e:∀y b,rf 78 k y b=eA y k b:=fun y b=>by unfold rf;rw[if_neg (by decide),if_neg (by decide)]
 by_cases aE:ik x.lo<0
 ·have ar:sn x k= .du [a2 ⟨⟨false,0,0⟩,⟨false,0,0⟩⟩,.bool false]:=by unfold sn;rw[if_pos aE]
  simp (maxSteps:=9^9) only[↓al,ak,simprocAttr,Vb,Vc,rR,a2,dY,e,ar,aE,lN,f76,PF,pf,aV,ck]
  first|done|exact⟨x.lo,rfl⟩
 ·have ar:sn x k= .du [a2 (tE x k),.bool true]:=by unfold sn;rw[if_neg aE]
  simp (maxSteps:=9^9) only[↓al,ak,simprocAttr,Vb,Vc,rR,a2,dY,e,ar,aE,lN,tE,f76,PF,pf,aV,ck,f77,Ld,mK]
  refine⟨⟨x.lo,rfl⟩,?_⟩
  exact⟨x,_,k,rfl,aj,.inr (.inr ⟨rfl,h1,h2⟩)⟩
def kk (x:a8):List D:=[.bool x.neg,.ints .i64 (au x.m),.int .i64 x.e]
theorem ari (x:a8):fj (.agg (kk x))=x:=ck x
theorem Jb:∀(l:List a8),(l.map kk).map (fun r=>fj (.agg r))=l
 |[]=>rfl
 |x::l=>by rw[List.map_cons,List.map_cons,Jb l,ari]
def eD (lt:a8→a8→Bool) (m:a8):List a8→a8
 |[]=>m
 |y::aC=>eD lt (if lt y m=true then y else m) aC
def gR (y m:a8):Bool:=decide (e4 y m<0)
def gS (y m:a8):Bool:=decide (e4 y m>0)
theorem Re {lt:a8→a8→Bool} {m:a8} {l:List a8} {i:Nat} (h:i<l.length):eD lt m (l.drop i)=eD lt (if lt l[i] m=true then l[i]else m) (l.drop (i+1)):=by
 rw[List.drop_eq_getElem_cons h];rfl
def qm:br where
 pre:=fun ds=>∃(x:a8) (l:List a8),ds=[.recs 3 ((x::l).map kk),.fn 74 [] []]∧(∀y∈x::l,dj y)∧l.length≤1000
 res:=fun ds=>match ds with
  |[.recs _ rows,_]=>match rows.map (fun r=>fj (.agg r))with
   |x::l=>aV (eD gR x l)
   |[]=> .nilp
  |_=> .nilp
theorem Hf (Γ:Env) (f74:Γ.fn 74=some j0) (VD:Γ.mt 74=none) (ds:List D) (h:qm.pre ds):bK Γ af7 af8 ds fun d=>d=qm.res ds:=by
 obtain⟨x,l,rfl,hW,aH⟩:=h
 have bO:qm.res [.recs 3 ((x::l).map kk),.fn 74 [] []]=aV (eD gR x l):=by simp only[qm,Jb]
 rw[bO]
 have Cg:j0.own=false:=rfl
 have fV:∀y m:a8,dj y→dj m→j0.pre [.agg [.bool y.neg,.ints .i64 (au y.m),.int .i64 y.e],.agg [.bool m.neg,.ints .i64 (au m.m),.int .i64 m.e]]:=fun y m h1 h2=>⟨y,m,rfl,h1,h2⟩
 have rc:∀y m:a8,j0.res [.agg [.bool y.neg,.ints .i64 (au y.m),.int .i64 y.e],.agg [.bool m.neg,.ints .i64 (au m.m),.int .i64 m.e]]= .int .i64 (e4 y m):=fun y m=>by simp only[j0,ck]
 obtain⟨rows,l2⟩:∃rows,rows=(x::l).map kk:=⟨_,rfl⟩
 have hlen:rows.length=l.length+1:=by rw[l2,List.length_map,List.length_cons]
 have B6:∀(i:Nat) (hi:i<l.length+1),rows.getD i []=[.bool ((x::l)[i]'(by simpa using hi)).neg,.ints .i64 (au ((x::l)[i]'(by simpa using hi)).m),.int .i64 ((x::l)[i]'(by simpa using hi)).e]:=fun i hi=>by
  rw[List.getD_eq_getElem?_getD,List.getElem?_eq_getElem (by omega),Option.getD_some]
  simp only[l2,List.getElem_map,kk]
 rw[←l2]
 have h0:=B6 0 (by omega)
 simp only[List.getElem_cons_zero]at h0
 have ct:¬(rows.length:Int)<1:=by omega
 have db:(0:Int)<rows.length:=by omega
 have Hg:=hW x (by simp)
 simp (maxSteps:=9^9) only[↓al,ak,simprocAttr,af7,af8,aV,ct,db,h0]
 refine cB (fun s=>s.af 4= .box 4 0∧(∃bJ bu bs,s.aA 4=some ⟨false,false,.cells [bJ,bu,bs]⟩)∧s.af 5= .box 5 0∧s.aA 5=some ⟨false,false,.cells [.d (.bool (eD gR x l).neg),.d (.ints .i64 (au (eD gR x l).m)),.d (.int .i64 (eD gR x l).e)]⟩) ?_ ?_
 ·simp (maxSteps:=9^9) only[↓al,ak,simprocAttr]
  refine eV (fun s=>∃(i:Nat) (m:a8),s.af 0= .d (.recs 3 rows)∧s.af 1= .d (.fn 74 [] [])∧s.af 4= .box 4 0∧(∃bJ bu bs,s.aA 4=some ⟨false,false,.cells [bJ,bu,bs]⟩)∧s.af 5= .box 5 0∧s.aA 5=some ⟨false,false,.cells [.d (.bool m.neg),.d (.ints .i64 (au m.m)),.d (.int .i64 m.e)]⟩∧s.af 6= .d (.int .i64 ((i+1:Nat):Int))∧i≤l.length∧dj m∧eD gR m (l.drop i)=eD gR x l)
   (fun s=>match s.af 6 with| .d (.int _ n)=>rows.length - n.toNat|_=>0) ?_ ?_
  ·refine⟨0,x,?_⟩
   simp (maxSteps:=2000000) only[↓al,ak,↓reduceIte,reduceCtorEq,Nat.reduceEqDiff,Nat.reduceLeDiff,Nat.reduceSub,Nat.reduceAdd,Int.reduceToNat,Nat.reducePow,Int.reducePow,Int.reduceLE,Int.reduceLT,IntKind.bits,Nat.zero_add,List.drop_zero]
   exact⟨⟨_,_,_,rfl⟩,rfl,Nat.zero_le _,Hg⟩
  ·rintro s ⟨i,m,b8,aN,cN,⟨bJ,bu,bs,a9⟩,dN,bq,fH,hi,hm,hf⟩
   by_cases ci:((i+1:Nat):Int)<rows.length
   ·have uE:i<l.length:=by omega
    have s8:i+1<rows.length:=by omega
    have sW:=B6 (i+1) (by omega)
    obtain⟨y,hy⟩:∃y,y=l[i]:=⟨_,rfl⟩
    have VE:(x::l)[i+1]'(by simpa using uE)=y:=by rw[hy];rfl
    rw[VE]at sW
    have VF:dj y:=hW y (by rw[hy];exact List.mem_cons_of_mem _ (List.getElem_mem uE))
    rw[Re uE,←hy]at hf
    have p1:=fV y m VF hm
    have bA:=rc y m
    have key:(.ints .i64 (au y.m):D)= .ints .i64 (au y.m):=rfl
    have JZ:dj (if gR y m=true then y else m):=by split<;>assumption
    obtain⟨M,cp⟩:∃M,M=(if gR y m=true then y else m):=⟨_,rfl⟩
    rw[←cp]at hf JZ
    refine cB (fun s=>s.af 0= .d (.recs 3 rows)∧s.af 1= .d (.fn 74 [] [])∧s.af 4= .box 4 0∧(∃bJ bu bs,s.aA 4=some ⟨false,false,.cells [bJ,bu,bs]⟩)∧s.af 5= .box 5 0∧s.aA 5=some ⟨false,false,.cells [.d (.bool m.neg),.d (.ints .i64 (au m.m)),.d (.int .i64 m.e)]⟩∧s.af 6= .d (.int .i64 ((i+1:Nat):Int))) ?_ ?_
    ·simp (maxSteps:=60000) only[↓al,ak,↓reduceIte,reduceCtorEq,Nat.reduceEqDiff,Nat.reduceLeDiff,Nat.reduceSub,Nat.reduceAdd,Int.reduceToNat,Nat.reducePow,Int.reducePow,Int.reduceLE,Int.reduceLT,IntKind.bits,b8,aN,cN,a9,dN,bq,fH,ci,s8]
     exact⟨_,_,_,rfl⟩
    have qF:=fH
    clear b8 aN cN a9 dN bq fH
    rintro s ⟨b8,aN,cN,⟨bJ,bu,bs,a9⟩,dN,bq,fH⟩
    refine cB (fun s=>s.af 0= .d (.recs 3 rows)∧s.af 1= .d (.fn 74 [] [])∧s.af 4= .box 4 0∧(∃bJ bu bs,s.aA 4=some ⟨false,false,.cells [bJ,bu,bs]⟩)∧s.af 5= .box 5 0∧s.aA 5=some ⟨false,false,.cells [.d (.bool M.neg),.d (.ints .i64 (au M.m)),.d (.int .i64 M.e)]⟩∧s.af 6= .d (.int .i64 ((i+1:Nat):Int))) ?_ ?_
    ·rw[ka]
     refine cB (fun s=>s.af 27= .d (.bool (gR y m))∧s.af 0= .d (.recs 3 rows)∧s.af 1= .d (.fn 74 [] [])∧s.af 4= .box 4 0∧(∃bJ bu bs,s.aA 4=some ⟨false,false,.cells [bJ,bu,bs]⟩)∧s.af 5= .box 5 0∧s.aA 5=some ⟨false,false,.cells [.d (.bool m.neg),.d (.ints .i64 (au m.m)),.d (.int .i64 m.e)]⟩∧s.af 6= .d (.int .i64 ((i+1:Nat):Int))) ?_ ?_
     ·simp (maxSteps:=60000) only[↓al,ak,↓reduceIte,reduceCtorEq,Nat.reduceEqDiff,Nat.reduceLeDiff,Nat.reduceSub,Nat.reduceAdd,Int.reduceToNat,Nat.reducePow,Int.reducePow,Int.reduceLE,Int.reduceLT,IntKind.bits,b8,aN,cN,a9,dN,bq,fH,s8,ci,sW,Int.toNat_natCast,f74,VD,Cg,p1,bA]
      exact⟨by omega,rfl,_,_,_,rfl⟩
     clear b8 aN cN a9 dN bq fH
     rintro s ⟨Ac,b8,aN,cN,⟨bJ,bu,bs,a9⟩,dN,bq,fH⟩
     cases aw:gR y m with
     |true=>
      rw[aw,if_pos rfl]at cp
      rw[aw]at Ac
      subst cp
      simp (maxSteps:=60000) only[↓al,ak,↓reduceIte,reduceCtorEq,Nat.reduceEqDiff,Nat.reduceLeDiff,Nat.reduceSub,Nat.reduceAdd,Int.reduceToNat,Nat.reducePow,Int.reducePow,Int.reduceLE,Int.reduceLT,IntKind.bits,Ac,b8,aN,cN,a9,dN,bq,fH,s8,ci,sW,Int.toNat_natCast]
      exact⟨by omega,_,_,_,rfl⟩
     |false=>
      rw[aw,if_neg (by decide)]at cp
      rw[aw]at Ac
      subst cp
      simp (maxSteps:=60000) only[↓al,ak,↓reduceIte,reduceCtorEq,Nat.reduceEqDiff,Nat.reduceLeDiff,Nat.reduceSub,Nat.reduceAdd,Int.reduceToNat,Nat.reducePow,Int.reducePow,Int.reduceLE,Int.reduceLT,IntKind.bits,Ac,b8,aN,cN,a9,dN,bq,fH]
      exact⟨_,_,_,rfl⟩
    clear b8 aN cN a9 dN bq fH
    rintro s ⟨b8,aN,cN,⟨bJ,bu,bs,a9⟩,dN,bq,fH⟩
    simp (maxSteps:=60000) only[↓al,ak,↓reduceIte,reduceCtorEq,Nat.reduceEqDiff,Nat.reduceLeDiff,Nat.reduceSub,Nat.reduceAdd,Int.reduceToNat,Nat.reducePow,Int.reducePow,Int.reduceLE,Int.reduceLT,IntKind.bits,b8,aN,cN,a9,dN,bq,fH]
    refine⟨by simp only[aI];omega,⟨i+1,M,⟨_,_,_,rfl⟩,rfl,by omega,by omega,JZ,hf⟩,?_⟩
    rw[qF]
    show rows.length - _<rows.length - _
    omega
   ·have Le:l.length≤i:=by omega
    rw[List.drop_eq_nil_of_le Le]at hf
    simp only[eD]at hf
    subst hf
    simp (maxSteps:=9^9) only[↓al,ak,simprocAttr,b8,aN,cN,a9,dN,bq,fH,ci]
    exact⟨_,_,_,rfl⟩
 ·rintro s ⟨cN,⟨bJ,bu,bs,a9⟩,dN,bq⟩
  simp (maxSteps:=9^9) only[↓al,ak,simprocAttr,cN,a9,dN,bq]
def qn:br where
 pre:=fun ds=>∃(x:a8) (l:List a8),ds=[.recs 3 ((x::l).map kk),.fn 74 [] []]∧(∀y∈x::l,dj y)∧l.length≤1000
 res:=fun ds=>match ds with
  |[.recs _ rows,_]=>match rows.map (fun r=>fj (.agg r))with
   |x::l=>aV (eD gS x l)
   |[]=> .nilp
  |_=> .nilp
theorem Hh (Γ:Env) (f74:Γ.fn 74=some j0) (VD:Γ.mt 74=none) (ds:List D) (h:qn.pre ds):bK Γ ags agt ds fun d=>d=qn.res ds:=by
 obtain⟨x,l,rfl,hW,aH⟩:=h
 have bO:qn.res [.recs 3 ((x::l).map kk),.fn 74 [] []]=aV (eD gS x l):=by simp only[qn,Jb]
 rw[bO]
 have Cg:j0.own=false:=rfl
 have fV:∀y m:a8,dj y→dj m→j0.pre [.agg [.bool y.neg,.ints .i64 (au y.m),.int .i64 y.e],.agg [.bool m.neg,.ints .i64 (au m.m),.int .i64 m.e]]:=fun y m h1 h2=>⟨y,m,rfl,h1,h2⟩
 have rc:∀y m:a8,j0.res [.agg [.bool y.neg,.ints .i64 (au y.m),.int .i64 y.e],.agg [.bool m.neg,.ints .i64 (au m.m),.int .i64 m.e]]= .int .i64 (e4 y m):=fun y m=>by simp only[j0,ck]
 obtain⟨rows,l2⟩:∃rows,rows=(x::l).map kk:=⟨_,rfl⟩
 have hlen:rows.length=l.length+1:=by rw[l2,List.length_map,List.length_cons]
 have B6:∀(i:Nat) (hi:i<l.length+1),rows.getD i []=[.bool ((x::l)[i]'(by simpa using hi)).neg,.ints .i64 (au ((x::l)[i]'(by simpa using hi)).m),.int .i64 ((x::l)[i]'(by simpa using hi)).e]:=fun i hi=>by
  rw[List.getD_eq_getElem?_getD,List.getElem?_eq_getElem (by omega),Option.getD_some]
  simp only[l2,List.getElem_map,kk]
 rw[←l2]
 have h0:=B6 0 (by omega)
 simp only[List.getElem_cons_zero]at h0
 have ct:¬(rows.length:Int)<1:=by omega
 have db:(0:Int)<rows.length:=by omega
 have Hg:=hW x (by simp)
 simp (maxSteps:=9^9) only[↓al,ak,simprocAttr,ags,agt,aV,ct,db,h0]
 refine cB (fun s=>s.af 4= .box 4 0∧(∃bJ bu bs,s.aA 4=some ⟨false,false,.cells [bJ,bu,bs]⟩)∧s.af 5= .box 5 0∧s.aA 5=some ⟨false,false,.cells [.d (.bool (eD gS x l).neg),.d (.ints .i64 (au (eD gS x l).m)),.d (.int .i64 (eD gS x l).e)]⟩) ?_ ?_
 ·simp (maxSteps:=9^9) only[↓al,ak,simprocAttr]
  refine eV (fun s=>∃(i:Nat) (m:a8),s.af 0= .d (.recs 3 rows)∧s.af 1= .d (.fn 74 [] [])∧s.af 4= .box 4 0∧(∃bJ bu bs,s.aA 4=some ⟨false,false,.cells [bJ,bu,bs]⟩)∧s.af 5= .box 5 0∧s.aA 5=some ⟨false,false,.cells [.d (.bool m.neg),.d (.ints .i64 (au m.m)),.d (.int .i64 m.e)]⟩∧s.af 6= .d (.int .i64 ((i+1:Nat):Int))∧i≤l.length∧dj m∧eD gS m (l.drop i)=eD gS x l)
   (fun s=>match s.af 6 with| .d (.int _ n)=>rows.length - n.toNat|_=>0) ?_ ?_
  ·refine⟨0,x,?_⟩
   simp (maxSteps:=2000000) only[↓al,ak,↓reduceIte,reduceCtorEq,Nat.reduceEqDiff,Nat.reduceLeDiff,Nat.reduceSub,Nat.reduceAdd,Int.reduceToNat,Nat.reducePow,Int.reducePow,Int.reduceLE,Int.reduceLT,IntKind.bits,Nat.zero_add,List.drop_zero]
   exact⟨⟨_,_,_,rfl⟩,rfl,Nat.zero_le _,Hg⟩
  ·rintro s ⟨i,m,b8,aN,cN,⟨bJ,bu,bs,a9⟩,dN,bq,fH,hi,hm,hf⟩
   by_cases ci:((i+1:Nat):Int)<rows.length
   ·have uE:i<l.length:=by omega
    have s8:i+1<rows.length:=by omega
    have sW:=B6 (i+1) (by omega)
    obtain⟨y,hy⟩:∃y,y=l[i]:=⟨_,rfl⟩
    have VE:(x::l)[i+1]'(by simpa using uE)=y:=by rw[hy];rfl
    rw[VE]at sW
    have VF:dj y:=hW y (by rw[hy];exact List.mem_cons_of_mem _ (List.getElem_mem uE))
    rw[Re uE,←hy]at hf
    have p1:=fV y m VF hm
    have bA:=rc y m
    have key:(.ints .i64 (au y.m):D)= .ints .i64 (au y.m):=rfl
    have JZ:dj (if gS y m=true then y else m):=by split<;>assumption
    obtain⟨M,cp⟩:∃M,M=(if gS y m=true then y else m):=⟨_,rfl⟩
    rw[←cp]at hf JZ
    refine cB (fun s=>s.af 0= .d (.recs 3 rows)∧s.af 1= .d (.fn 74 [] [])∧s.af 4= .box 4 0∧(∃bJ bu bs,s.aA 4=some ⟨false,false,.cells [bJ,bu,bs]⟩)∧s.af 5= .box 5 0∧s.aA 5=some ⟨false,false,.cells [.d (.bool m.neg),.d (.ints .i64 (au m.m)),.d (.int .i64 m.e)]⟩∧s.af 6= .d (.int .i64 ((i+1:Nat):Int))) ?_ ?_
    ·simp (maxSteps:=60000) only[↓al,ak,↓reduceIte,reduceCtorEq,Nat.reduceEqDiff,Nat.reduceLeDiff,Nat.reduceSub,Nat.reduceAdd,Int.reduceToNat,Nat.reducePow,Int.reducePow,Int.reduceLE,Int.reduceLT,IntKind.bits,b8,aN,cN,a9,dN,bq,fH,ci,s8]
     exact⟨_,_,_,rfl⟩
    have qF:=fH
    clear b8 aN cN a9 dN bq fH
    rintro s ⟨b8,aN,cN,⟨bJ,bu,bs,a9⟩,dN,bq,fH⟩
    refine cB (fun s=>s.af 0= .d (.recs 3 rows)∧s.af 1= .d (.fn 74 [] [])∧s.af 4= .box 4 0∧(∃bJ bu bs,s.aA 4=some ⟨false,false,.cells [bJ,bu,bs]⟩)∧s.af 5= .box 5 0∧s.aA 5=some ⟨false,false,.cells [.d (.bool M.neg),.d (.ints .i64 (au M.m)),.d (.int .i64 M.e)]⟩∧s.af 6= .d (.int .i64 ((i+1:Nat):Int))) ?_ ?_
    ·rw[ka]
     refine cB (fun s=>s.af 27= .d (.bool (gS y m))∧s.af 0= .d (.recs 3 rows)∧s.af 1= .d (.fn 74 [] [])∧s.af 4= .box 4 0∧(∃bJ bu bs,s.aA 4=some ⟨false,false,.cells [bJ,bu,bs]⟩)∧s.af 5= .box 5 0∧s.aA 5=some ⟨false,false,.cells [.d (.bool m.neg),.d (.ints .i64 (au m.m)),.d (.int .i64 m.e)]⟩∧s.af 6= .d (.int .i64 ((i+1:Nat):Int))) ?_ ?_
     ·simp (maxSteps:=60000) only[↓al,ak,↓reduceIte,reduceCtorEq,Nat.reduceEqDiff,Nat.reduceLeDiff,Nat.reduceSub,Nat.reduceAdd,Int.reduceToNat,Nat.reducePow,Int.reducePow,Int.reduceLE,Int.reduceLT,IntKind.bits,b8,aN,cN,a9,dN,bq,fH,s8,ci,sW,Int.toNat_natCast,f74,VD,Cg,p1,bA]
      exact⟨by omega,rfl,_,_,_,rfl⟩
     clear b8 aN cN a9 dN bq fH
     rintro s ⟨Ac,b8,aN,cN,⟨bJ,bu,bs,a9⟩,dN,bq,fH⟩
     cases aw:gS y m with
     |true=>
      rw[aw,if_pos rfl]at cp
      rw[aw]at Ac
      subst cp
      simp (maxSteps:=60000) only[↓al,ak,↓reduceIte,reduceCtorEq,Nat.reduceEqDiff,Nat.reduceLeDiff,Nat.reduceSub,Nat.reduceAdd,Int.reduceToNat,Nat.reducePow,Int.reducePow,Int.reduceLE,Int.reduceLT,IntKind.bits,Ac,b8,aN,cN,a9,dN,bq,fH,s8,ci,sW,Int.toNat_natCast]
      exact⟨by omega,_,_,_,rfl⟩
     |false=>
      rw[aw,if_neg (by decide)]at cp
      rw[aw]at Ac
      subst cp
      simp (maxSteps:=60000) only[↓al,ak,↓reduceIte,reduceCtorEq,Nat.reduceEqDiff,Nat.reduceLeDiff,Nat.reduceSub,Nat.reduceAdd,Int.reduceToNat,Nat.reducePow,Int.reducePow,Int.reduceLE,Int.reduceLT,IntKind.bits,Ac,b8,aN,cN,a9,dN,bq,fH]
      exact⟨_,_,_,rfl⟩
    clear b8 aN cN a9 dN bq fH
    rintro s ⟨b8,aN,cN,⟨bJ,bu,bs,a9⟩,dN,bq,fH⟩
    simp (maxSteps:=60000) only[↓al,ak,↓reduceIte,reduceCtorEq,Nat.reduceEqDiff,Nat.reduceLeDiff,Nat.reduceSub,Nat.reduceAdd,Int.reduceToNat,Nat.reducePow,Int.reducePow,Int.reduceLE,Int.reduceLT,IntKind.bits,b8,aN,cN,a9,dN,bq,fH]
    refine⟨by simp only[aI];omega,⟨i+1,M,⟨_,_,_,rfl⟩,rfl,by omega,by omega,JZ,hf⟩,?_⟩
    rw[qF]
    show rows.length - _<rows.length - _
    omega
   ·have Le:l.length≤i:=by omega
    rw[List.drop_eq_nil_of_le Le]at hf
    simp only[eD]at hf
    subst hf
    simp (maxSteps:=9^9) only[↓al,ak,simprocAttr,b8,aN,cN,a9,dN,bq,fH,ci]
    exact⟨_,_,_,rfl⟩
 ·rintro s ⟨cN,⟨bJ,bu,bs,a9⟩,dN,bq⟩
  simp (maxSteps:=9^9) only[↓al,ak,simprocAttr,cN,a9,dN,bq]
end RV.Dr
