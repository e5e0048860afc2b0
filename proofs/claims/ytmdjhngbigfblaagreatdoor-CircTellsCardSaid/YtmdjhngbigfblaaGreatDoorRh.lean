/- Lemmas for a claim: an abstract machine for the translated code, proved sound, and contracts of functions. By an AI agent. -/
import Derived.Test.YtmdjhngbigfblaaGreatDoorRg
import Derived.Test.YtmdjhngbigfblaaGreatDoorRb
import Derived.Test.YtmdjhngbigfblaaGreatDoorRf
set_option linter.all false
namespace RV.Dr
open Go RV
set_option linter.unusedSimpArgs false
set_option linter.unusedVariables false
set_option maxRecDepth 100000
set_option maxHeartbeats 4000000
theorem adJ {n j:Nat} (h0:n≠0) (az:j≤bJ n):n / 2^j=n / 2^bJ n*2^(bJ n - j):=by
 refine Nat.div_eq_of_eq_mul_left (Nat.two_pow_pos _) ?_
 rw[Nat.mul_assoc,←Nat.pow_add,show bJ n - j+j=bJ n by omega]
 exact(hJ h0).1.symm
theorem aac {n j:Nat} (h0:n≠0) (az:j<bJ n):n / 2^j % 2=0:=by
 rw[adJ h0 (by omega),show bJ n - j=bJ n - j - 1+1 by omega,Nat.pow_succ,←Nat.mul_assoc]
 exact Nat.mul_mod_left _ _
theorem MB {n j:Nat} (h0:n≠0) (az:j≤bJ n):0<n / 2^j:=
 Nat.div_pos (Nat.le_trans (Nat.pow_le_pow_right (by decide) az) (Ab h0)) (Nat.two_pow_pos _)
def k6:bq where
 pre:=fun ds=>∃(K:Int) (Q:Nat),ds=[cl K Q]∧Q≤60∧aG K
 res:=fun ds=>match ds with
  |[.agg [.int _ K,.int _ Q]]=>jB (an K Q.toNat)
  |_=> .nilp
theorem ajd (Γ:Env) (ds:List D) (h:k6.pre ds):bH Γ JL JM ds fun d=>d=k6.res ds:=by
 obtain⟨K,Q,rfl,cn,bV⟩:=h
 have aS:=R8 cn
 have h0:=Nat.two_pow_pos Q
 have s7:Q≤64:=by omega
 have bp:=Bh K Q
 have cq:k6.res [cl K Q]=cl (jZ K Q) (j0 K Q):=by simp only[k6,cl,Int.toNat_natCast];exact(R9 K cn).symm
 rw[cq]
 obtain⟨P,DC⟩:∃P:Nat,P=2^Q:=⟨_,rfl⟩
 have mP:(1:Int)*2^Q=(P:Int):=by rw[Int.one_mul,DC];exact_mod_cast rfl
 have ao:=Ff K Q
 rw[←DC]at ao aS h0 bp
 have hq:=Int.tmod_lt_of_pos K (show (0:Int)<P by omega)
 have yl: -(P:Int)<K.tmod P:=Int.lt_tmod_of_pos K (by omega)
 have vF:(K.tmod P+P).tmod P=(gd K Q:Int):=by
  rw[Int.tmod_eq_emod_of_nonneg (by omega),Int.add_emod_right,←ao]
  have:=Int.mul_tdiv_add_tmod K P
  rw[show K.tmod P=K+P*(-(K.tdiv P))by rw[Int.mul_neg];omega,Int.add_mul_emod_self_left]
 have aje:(P:Int)≠0:=by omega
 obtain⟨n,aH⟩:∃n,n=gd K Q:=⟨_,rfl⟩
 rw[←aH]at vF bp
 rw[fP]
 unfold JL JM
 refine bX (fun s=>s.af 1= .box 1 0∧s.aw 1=some ⟨false,false,.cells [.d (.int .i64 K),.d (.int .i64 Q)]⟩∧s.af 2= .box 2 0∧s.aw 2=some ⟨false,false,.cells [.d (.int .i64 0),.d (.int .i64 0)]⟩) ?_ ?_
 ·simp (maxSteps:=2000000) only[↓ak,aj,↓reduceIte,reduceCtorEq,Nat.reduceEqDiff,Nat.reduceLeDiff,Nat.reduceSub,Nat.reduceAdd,Int.reduceToNat,Nat.reducePow,Int.reducePow,Int.reduceLE,Int.reduceLT,IntKind.bits,cl]
 rintro s ⟨h1,cf,h2,aY⟩
 refine bX (fun s=>s.af 3= .d (.int .i64 P)∧s.af 1= .box 1 0∧s.aw 1=some ⟨false,false,.cells [.d (.int .i64 K),.d (.int .i64 Q)]⟩∧s.af 2= .box 2 0∧s.aw 2=some ⟨false,false,.cells [.d (.int .i64 0),.d (.int .i64 0)]⟩) ?_ ?_
 ·simp (maxSteps:=2000000) only[↓ak,aj,↓reduceIte,reduceCtorEq,Nat.reduceEqDiff,Nat.reduceLeDiff,Nat.reduceSub,Nat.reduceAdd,Int.reduceToNat,Nat.reducePow,Int.reducePow,Int.reduceLE,Int.reduceLT,IntKind.bits,h1,cf,h2,aY,Int.toNat_natCast,s7,mP]
  ((repeat' apply And.intro)<;>first|assumption|with_reducible rfl|omega|(simp only[aG];omega)|exact⟨_,rfl⟩|exact⟨_,_,_,rfl⟩|exact⟨_,_,_,_,_,_,rfl⟩)
 rintro s ⟨al,h1,cf,h2,aY⟩
 refine bX (fun s=>s.af 4= .d (.int .i64 n)∧s.af 1= .box 1 0∧s.aw 1=some ⟨false,false,.cells [.d (.int .i64 K),.d (.int .i64 Q)]⟩∧s.af 2= .box 2 0∧s.aw 2=some ⟨false,false,.cells [.d (.int .i64 0),.d (.int .i64 0)]⟩) ?_ ?_
 ·simp (maxSteps:=2000000) only[↓ak,aj,↓reduceIte,reduceCtorEq,Nat.reduceEqDiff,Nat.reduceLeDiff,Nat.reduceSub,Nat.reduceAdd,Int.reduceToNat,Nat.reducePow,Int.reducePow,Int.reduceLE,Int.reduceLT,IntKind.bits,h1,cf,h2,aY,al,vF,aje]
  ((repeat' apply And.intro)<;>first|assumption|with_reducible rfl|omega|(simp only[aG];omega)|exact⟨_,rfl⟩|exact⟨_,_,_,rfl⟩|exact⟨_,_,_,_,_,_,rfl⟩)
 rintro s ⟨aE,h1,cf,h2,aY⟩
 refine bX (fun s=>s.af 5= .d (.int .i64 Q)∧s.af 4= .d (.int .i64 n)∧s.af 2= .box 2 0∧s.aw 2=some ⟨false,false,.cells [.d (.int .i64 0),.d (.int .i64 0)]⟩) ?_ ?_
 ·simp (maxSteps:=2000000) only[↓ak,aj,↓reduceIte,reduceCtorEq,Nat.reduceEqDiff,Nat.reduceLeDiff,Nat.reduceSub,Nat.reduceAdd,Int.reduceToNat,Nat.reducePow,Int.reducePow,Int.reduceLE,Int.reduceLT,IntKind.bits,h1,cf,h2,aY,aE]
 rintro s ⟨aI,aE,h2,aY⟩
 refine cc (fun s=>s.af 5= .d (.int .i64 (if n=0 then Q else Q - bJ n:Int))∧s.af 4= .d (.int .i64 (n / 2^bJ n:Nat))∧s.af 2= .box 2 0∧s.aw 2=some ⟨false,false,.cells [.d (.int .i64 0),.d (.int .i64 0)]⟩) ?_ ?_
 ·simp (maxSteps:=2000000) only[↓ak,aj,↓reduceIte,reduceCtorEq,Nat.reduceEqDiff,Nat.reduceLeDiff,Nat.reduceSub,Nat.reduceAdd,Int.reduceToNat,Nat.reducePow,Int.reducePow,Int.reduceLE,Int.reduceLT,IntKind.bits]
  refine eC (fun s=>∃j:Nat,s.af 5= .d (.int .i64 (Q - j))∧s.af 4= .d (.int .i64 (n / 2^j:Nat))∧s.af 2= .box 2 0∧s.aw 2=some ⟨false,false,.cells [.d (.int .i64 0),.d (.int .i64 0)]⟩∧(n=0→j=0)∧(n≠0→j≤bJ n))
   (fun s=>match s.af 4 with| .d (.int _ n)=>n.toNat|_=>0) ?_ ?_
  ·exact⟨0,by rw[aI];simp,by rw[aE];simp,h2,aY,fun _=>rfl,fun _=>Nat.zero_le _⟩
  ·rintro s ⟨j,aI,aE,h2,aY,akV,Dm⟩
   obtain⟨k,ad⟩:∃k,k=n / 2^j:=⟨_,rfl⟩
   rw[←ad]at aE
   have rI:k≤n:=ad▸Nat.div_le_self _ _
   have Vj:(k:Int).tmod 2=((k % 2:Nat):Int):=by rw[Int.tmod_eq_emod_of_nonneg (by omega)];omega
   have Ke:(k:Int).tdiv 2=((k / 2:Nat):Int):=by rw[Int.tdiv_eq_ediv_of_nonneg (by omega)];omega
   by_cases dj:n=0
   ·have uk:=akV dj
    subst uk
    have ek:k=0:=by rw[ad,dj]
    have bB:¬((k:Int)>0):=by omega
    simp (maxSteps:=2000000) only[↓ak,aj,↓reduceIte,reduceCtorEq,Nat.reduceEqDiff,Nat.reduceLeDiff,Nat.reduceSub,Nat.reduceAdd,Int.reduceToNat,Nat.reducePow,Int.reducePow,Int.reduceLE,Int.reduceLT,IntKind.bits,aI,aE,h2,aY,bB]
    rw[if_pos dj,dj,ek]
    exact⟨by simp,by simp⟩
   ·have az:=Dm dj
    have cw:0<k:=ad▸MB dj az
    have bB:(k:Int)>0:=by omega
    by_cases Vk:j<bJ n
    ·have Lj:k % 2=0:=ad▸aac dj Vk
     have cu:(((k % 2:Nat):Int)==0)=true:=by rw[Lj];rfl
     simp (maxSteps:=2000000) only[↓ak,aj,↓reduceIte,reduceCtorEq,Nat.reduceEqDiff,Nat.reduceLeDiff,Nat.reduceSub,Nat.reduceAdd,Int.reduceToNat,Nat.reducePow,Int.reducePow,Int.reduceLE,Int.reduceLT,IntKind.bits,aI,aE,h2,aY,bB,Vj,Ke,cu,Int.toNat_natCast]
     have:bJ n<Q:=pL dj (DC▸bp)
     refine⟨by decide,by decide,by simp only[aG];omega,by simp only[aG];omega,⟨j+1,by omega,?_,fun h=>absurd h dj,fun _=>Vk⟩,by omega⟩
     rw[ad,Nat.pow_succ,Nat.div_div_eq_div_mul]
    ·have uk:j=bJ n:=by omega
     have Lj:k % 2=1:=by rw[ad,uk];exact(hJ dj).2
     have cu:(((k % 2:Nat):Int)==0)=false:=by rw[Lj];rfl
     simp (maxSteps:=2000000) only[↓ak,aj,↓reduceIte,reduceCtorEq,Nat.reduceEqDiff,Nat.reduceLeDiff,Nat.reduceSub,Nat.reduceAdd,Int.reduceToNat,Nat.reducePow,Int.reducePow,Int.reduceLE,Int.reduceLT,IntKind.bits,aI,aE,h2,aY,bB,Vj,cu,if_neg dj]
     rw[ad,uk]
     exact⟨by decide,rfl,rfl⟩
 rintro s ⟨aI,aE,h2,aY⟩
 by_cases dj:n=0
 ·have a1:jZ K Q=0:=by unfold jZ;rw[←aH,dj];exact Nat.zero_div _
  have a6:j0 K Q=0:=by unfold j0;rw[←aH,if_pos dj]
  have Kk:((jZ K Q:Nat):Int)=0:=by rw[a1];rfl
  have Kl:((j0 K Q:Nat):Int)=0:=by rw[a6];rfl
  have cU:((n / 2^bJ n:Nat):Int)=0:=by rw[dj,Nat.zero_div];rfl
  rw[cU]at aE
  simp (maxSteps:=2000000) only[↓ak,aj,↓reduceIte,reduceCtorEq,Nat.reduceEqDiff,Nat.reduceLeDiff,Nat.reduceSub,Nat.reduceAdd,Int.reduceToNat,Nat.reducePow,Int.reducePow,Int.reduceLE,Int.reduceLT,IntKind.bits,aI,aE,h2,aY,beq_self_eq_true,Kk,Kl,cl]
 ·have a1:((n / 2^bJ n:Nat):Int)=jZ K Q:=by unfold jZ;rw[←aH]
  have a6:(Q:Int) - bJ n=(j0 K Q:Int):=by
   have:bJ n<Q:=pL dj (DC▸bp)
   unfold j0;rw[←aH,if_neg dj];omega
  have ar:((jZ K Q:Int)==0)=false:=by
   have:=MB dj (Nat.le_refl _)
   exact beq_false_of_ne (by omega)
  rw[if_neg dj,a6]at aI
  rw[a1]at aE
  simp (maxSteps:=2000000) only[↓ak,aj,↓reduceIte,reduceCtorEq,Nat.reduceEqDiff,Nat.reduceLeDiff,Nat.reduceSub,Nat.reduceAdd,Int.reduceToNat,Nat.reducePow,Int.reducePow,Int.reduceLE,Int.reduceLT,IntKind.bits,aI,aE,h2,aY,ar,cl]
theorem tW (K:Int) (Q:Nat):k6.res [.agg [.int .i64 K,.int .i64 Q]]= .agg [.int .i64 (b6 (an K Q)),.int .i64 (a5 (an K Q))]:=by simp only[k6,Int.toNat_natCast];rfl
theorem i80 {K:Int} {Q:Nat} (h:Q≤60) (aq:aG K):k6.pre [.agg [.int .i64 K,.int .i64 Q]]:=⟨K,Q,rfl,h,aq⟩
def qk:bq where
 pre:=fun ds=>∃(K:Int) (Q q:Nat),ds=[cl K Q,.int .i64 q]∧Q≤q∧q≤60∧aG K
 res:=fun ds=>match ds with
  |[.agg [.int _ K,.int _ Q],.int _ q]=> .int .i64 (an K Q.toNat / 2^(60 - q.toNat):Nat)
  |_=> .nilp
theorem ajf (Γ:Env) (m1:Γ.has 80 k6) (ds:List D) (h:qk.pre ds):bH Γ J1 J2 ds fun d=>d=qk.res ds:=by
 obtain⟨K,Q,q,rfl,cn,aZ,aq⟩:=h
 have cq:qk.res [cl K Q,.int .i64 q]= .int .i64 (an K Q / 2^(60 - q):Nat):=by simp only[qk,cl,Int.toNat_natCast]
 rw[cq]
 have S8:Q≤60:=by omega
 have p1:=i80 S8 aq
 have bP:=tW K Q
 have uv:=pM K S8
 obtain⟨a,a2⟩:∃a,a=an K Q:=⟨_,rfl⟩
 have ck:a<1152921504606846976:=a2▸ig K Q
 rw[←a2]at bP uv⊢
 have s1:(q:Int) - (a5 a:Int)=((q - a5 a:Nat):Int):=by omega
 have cW:=u1 ck (by omega:a5 a≤q) aZ
 have bW:(b6 a:Int)*2^(q - a5 a)=((a / 2^(60 - q):Nat):Int):=by rw[←cW,Int.natCast_mul];exact_mod_cast rfl
 have bf:a / 2^(60 - q)≤a:=Nat.div_le_self _ _
 have gw:q - a5 a≤64:=by omega
 simp (maxSteps:=2000000) only[↓ak,aj,↓reduceIte,reduceCtorEq,Nat.reduceEqDiff,Nat.reduceLeDiff,Nat.reduceSub,Nat.reduceAdd,Int.reduceToNat,Nat.reducePow,Int.reducePow,Int.reduceLE,Int.reduceLT,IntKind.bits,J1,J2,cl,m1,p1,bP,s1,Int.toNat_natCast,gw,bW]
 ((repeat' apply And.intro)<;>first|assumption|with_reducible rfl|omega|(simp only[aG];omega)|exact⟨_,rfl⟩|exact⟨_,_,_,rfl⟩|exact⟨_,_,_,_,_,_,rfl⟩)
theorem ajg (K:Int) (Q q:Nat):qk.res [.agg [.int .i64 K,.int .i64 Q],.int .i64 q]= .int .i64 (an K Q / 2^(60 - q):Nat):=by simp only[qk,Int.toNat_natCast]
theorem acY (K:Int) {Q q:Nat} (h1:Q≤q) (h2:q≤60):an K Q / 2^(60 - q)*2^(60 - q)=an K Q:=by
 have h:=ig K Q
 have g:=pM K (by omega:Q≤60)
 rw[←u1 h (by omega:a5 (an K Q)≤q) h2,Nat.mul_assoc,←Nat.pow_add,show q - a5 (an K Q)+(60 - q)=60 - a5 (an K Q)by omega,sZ h]
def pV:bq where
 pre:=fun ds=>∃(K:Int) (Q:Nat),ds=[cl K Q]∧Q≤60∧aG K
 res:=fun ds=>match ds with
  |[.agg [.int _ K,.int _ Q]]=>qb (an K Q.toNat)
  |_=> .nilp
theorem afQ (Γ:Env) (m1:Γ.has 80 k6) (ajh:Γ.has 95 qk) (ds:List D) (h:pV.pre ds):bH Γ He Hf ds fun d=>d=pV.res ds:=by
 obtain⟨K,Q,rfl,cn,bV⟩:=h
 have cq:pV.res [cl K Q]=qb (an K Q):=by simp only[pV,cl,Int.toNat_natCast]
 rw[cq]
 obtain⟨q,aZ⟩:∃q,q=max Q 3:=⟨_,rfl⟩
 have ea:Q≤q:=by omega
 have ft:3≤q:=by omega
 have fY:q≤60:=by omega
 have p1:qk.pre [.agg [.int .i64 K,.int .i64 Q],.int .i64 q]:=⟨K,Q,q,rfl,ea,fY,bV⟩
 have bP:=ajg K Q q
 have eR:=acY K ea fY
 obtain⟨a,a2⟩:∃a,a=an K Q:=⟨_,rfl⟩
 have ck:a<1152921504606846976:=a2▸ig K Q
 rw[←a2]at bP eR⊢
 obtain⟨k,ad⟩:∃k,k=a / 2^(60 - q):=⟨_,rfl⟩
 rw[←ad]at bP eR
 have alU:k≤a:=ad▸Nat.div_le_self _ _
 obtain⟨o,bh⟩:∃o,o=2^(q - 3):=⟨_,rfl⟩
 have ams:0<o:=bh▸Nat.two_pow_pos _
 have ug:o≤144115188075855872:=bh▸Nat.pow_le_pow_right (n:=2) (by decide) (by omega:q - 3≤57)
 have Lk:o*2^(60 - q)=144115188075855872:=by rw[bh,←Nat.pow_add,show q - 3+(60 - q)=57 by omega]
 have sh:(1:Int)*2^(q - 3)=(o:Int):=by rw[Int.one_mul,bh];exact_mod_cast rfl
 have s1:(q:Int) - 3=((q - 3:Nat):Int):=by omega
 have gw:q - 3≤64:=by omega
 have o8:(o:Int)≠0:=by omega
 have wq:k / o=b7 a:=by
  unfold b7
  rw[ad,Nat.div_div_eq_div_mul,Nat.mul_comm,Lk]
 have akW:(k:Int).tdiv o=(b7 a:Int):=by rw[Int.tdiv_eq_ediv_of_nonneg (by omega),←wq];exact_mod_cast rfl
 have dQ:=s0 ck
 have zm:(b7 a:Int).tmod 2=((b7 a % 2:Nat):Int):=by rw[Int.tmod_eq_emod_of_nonneg (by omega)];omega
 have amt:b7 a*o≤k:=by rw[←wq];exact Nat.div_mul_le_self _ _
 have alV:(b7 a+1)*o≤1152921504606846976:=Nat.le_trans (Nat.mul_le_mul (by omega:b7 a+1≤8) ug) (by decide)
 have bB:(b7 a:Int)*(o:Int)=((b7 a*o:Nat):Int):=(Int.natCast_mul _ _).symm
 have cu:((b7 a:Int)+1)*(o:Int)=(((b7 a+1)*o:Nat):Int):=by rw[Int.natCast_mul];exact_mod_cast rfl
 have eX:b7 a*o*2^(60 - q)=b7 a*144115188075855872:=by rw[Nat.mul_assoc,Lk]
 have l7:(b7 a+1)*o*2^(60 - q)=(b7 a+1)*144115188075855872:=by rw[Nat.mul_assoc,Lk]
 have i1:aG ((k:Int) - ((b7 a*o:Nat):Int)):=by simp only[aG];omega
 have i2:aG ((((b7 a+1)*o:Nat):Int) - k):=by simp only[aG];omega
 rw[fP]
 unfold He Hf
 refine bX (fun s=>s.af 1= .box 1 0∧s.aw 1=some ⟨false,false,.cells [.d (.int .i64 K),.d (.int .i64 Q)]⟩∧s.af 2= .box 2 0∧s.aw 2=some ⟨false,false,.cells [.d (.int .i64 0),.d (.int .i64 0),.d (.int .i64 0)]⟩) ?_ ?_
 ·simp (maxSteps:=2000000) only[↓ak,aj,↓reduceIte,reduceCtorEq,Nat.reduceEqDiff,Nat.reduceLeDiff,Nat.reduceSub,Nat.reduceAdd,Int.reduceToNat,Nat.reducePow,Int.reducePow,Int.reduceLE,Int.reduceLT,IntKind.bits,cl]
 rintro s ⟨h1,cf,h2,aY⟩
 refine bX (fun s=>s.af 3= .d (.int .i64 q)∧s.af 1= .box 1 0∧s.aw 1=some ⟨false,false,.cells [.d (.int .i64 K),.d (.int .i64 Q)]⟩∧s.af 2= .box 2 0∧s.aw 2=some ⟨false,false,.cells [.d (.int .i64 0),.d (.int .i64 0),.d (.int .i64 0)]⟩) ?_ ?_
 ·simp (maxSteps:=2000000) only[↓ak,aj,↓reduceIte,reduceCtorEq,Nat.reduceEqDiff,Nat.reduceLeDiff,Nat.reduceSub,Nat.reduceAdd,Int.reduceToNat,Nat.reducePow,Int.reducePow,Int.reduceLE,Int.reduceLT,IntKind.bits,h1,cf,h2,aY]
  split<;>omega
 rintro s ⟨al,h1,cf,h2,aY⟩
 refine bX (fun s=>s.af 4= .d (.int .i64 k)∧s.af 3= .d (.int .i64 q)∧s.af 2= .box 2 0∧s.aw 2=some ⟨false,false,.cells [.d (.int .i64 0),.d (.int .i64 0),.d (.int .i64 0)]⟩) ?_ ?_
 ·simp (maxSteps:=2000000) only[↓ak,aj,↓reduceIte,reduceCtorEq,Nat.reduceEqDiff,Nat.reduceLeDiff,Nat.reduceSub,Nat.reduceAdd,Int.reduceToNat,Nat.reducePow,Int.reducePow,Int.reduceLE,Int.reduceLT,IntKind.bits,h1,cf,h2,aY,al,ajh,p1,bP]
 rintro s ⟨aE,al,h2,aY⟩
 refine bX (fun s=>s.af 5= .d (.int .i64 o)∧s.af 4= .d (.int .i64 k)∧s.af 3= .d (.int .i64 q)∧s.af 2= .box 2 0∧s.aw 2=some ⟨false,false,.cells [.d (.int .i64 0),.d (.int .i64 0),.d (.int .i64 0)]⟩) ?_ ?_
 ·simp (maxSteps:=2000000) only[↓ak,aj,↓reduceIte,reduceCtorEq,Nat.reduceEqDiff,Nat.reduceLeDiff,Nat.reduceSub,Nat.reduceAdd,Int.reduceToNat,Nat.reducePow,Int.reducePow,Int.reduceLE,Int.reduceLT,IntKind.bits,aE,al,h2,aY,s1,Int.toNat_natCast,gw,sh]
  ((repeat' apply And.intro)<;>first|assumption|with_reducible rfl|omega|(simp only[aG];omega)|exact⟨_,rfl⟩|exact⟨_,_,_,rfl⟩|exact⟨_,_,_,_,_,_,rfl⟩)
 rintro s ⟨aI,aE,al,h2,aY⟩
 refine bX (fun s=>s.af 6= .d (.int .i64 (b7 a))∧s.af 5= .d (.int .i64 o)∧s.af 4= .d (.int .i64 k)∧s.af 3= .d (.int .i64 q)∧s.af 2= .box 2 0∧s.aw 2=some ⟨false,false,.cells [.d (.int .i64 0),.d (.int .i64 0),.d (.int .i64 0)]⟩) ?_ ?_
 ·simp (maxSteps:=2000000) only[↓ak,aj,↓reduceIte,reduceCtorEq,Nat.reduceEqDiff,Nat.reduceLeDiff,Nat.reduceSub,Nat.reduceAdd,Int.reduceToNat,Nat.reducePow,Int.reducePow,Int.reduceLE,Int.reduceLT,IntKind.bits,aI,aE,al,h2,aY,akW,o8]
  ((repeat' apply And.intro)<;>first|assumption|with_reducible rfl|omega|(simp only[aG];omega)|exact⟨_,rfl⟩|exact⟨_,_,_,rfl⟩|exact⟨_,_,_,_,_,_,rfl⟩)
 rintro s ⟨aM,aI,aE,al,h2,aY⟩
 by_cases he:b7 a % 2=0
 ·have ar:(((b7 a % 2:Nat):Int)==0)=true:=by rw[he];rfl
  have cS:=i80 fY i1
  have ca:=tW ((k:Int) - ((b7 a*o:Nat):Int)) q
  have a6:an ((k:Int) - ((b7 a*o:Nat):Int)) q=cg a:=by
   unfold an cg
   rw[if_pos he,Int.sub_mul,←Int.natCast_mul,←Int.natCast_mul,eR,eX]
   have ay:b7 a*144115188075855872≤a:=by unfold b7;exact Nat.div_mul_le_self _ _
   generalize b7 a*144115188075855872=x at ay
   rw[Int.emod_eq_of_lt (by omega) (by omega),←Int.ofNat_sub ay,Int.toNat_natCast]
  rw[a6]at ca
  simp (maxSteps:=2000000) only[↓ak,aj,↓reduceIte,reduceCtorEq,Nat.reduceEqDiff,Nat.reduceLeDiff,Nat.reduceSub,Nat.reduceAdd,Int.reduceToNat,Nat.reducePow,Int.reducePow,Int.reduceLE,Int.reduceLT,IntKind.bits,aM,aI,aE,al,h2,aY,zm,ar,bB,m1,cS,ca,qb]
  ((repeat' apply And.intro)<;>first|assumption|with_reducible rfl|omega|(simp only[aG];omega)|exact⟨_,rfl⟩|exact⟨_,_,_,rfl⟩|exact⟨_,_,_,_,_,_,rfl⟩)
 ·have ar:(((b7 a % 2:Nat):Int)==0)=false:=beq_false_of_ne (by omega)
  have cS:=i80 fY i2
  have ca:=tW ((((b7 a+1)*o:Nat):Int) - k) q
  have a6:an ((((b7 a+1)*o:Nat):Int) - k) q=cg a:=by
   unfold an cg
   rw[if_neg he,Int.sub_mul,←Int.natCast_mul,←Int.natCast_mul,eR,l7]
   unfold b7 at*
   omega
  rw[a6]at ca
  simp (maxSteps:=2000000) only[↓ak,aj,↓reduceIte,reduceCtorEq,Nat.reduceEqDiff,Nat.reduceLeDiff,Nat.reduceSub,Nat.reduceAdd,Int.reduceToNat,Nat.reducePow,Int.reducePow,Int.reduceLE,Int.reduceLT,IntKind.bits,aM,aI,aE,al,h2,aY,zm,ar,cu,m1,cS,ca,qb]
  ((repeat' apply And.intro)<;>first|assumption|with_reducible rfl|omega|(simp only[aG];omega)|exact⟨_,rfl⟩|exact⟨_,_,_,rfl⟩|exact⟨_,_,_,_,_,_,rfl⟩)
def tn:bq where
 pre:=fun ds=>∃e:Int,ds=[.int .i64 e]∧0≤e∧e≤7
 res:=pT.res
theorem afR (Γ:Env) (ds:List D) (h:tn.pre ds):bH Γ Hi Hj ds fun d=>d=tn.res ds:=by
 obtain⟨e,rfl,ah1,he⟩:=h
 have:e=0∨e=1∨e=2∨e=3∨e=4∨e=5∨e=6∨e=7:=by omega
 rcases this with rfl|rfl|rfl|rfl|rfl|rfl|rfl|rfl<;>
  (simp (maxSteps:=2000000) only[↓ak,aj,↓reduceIte,reduceCtorEq,Nat.reduceEqDiff,Nat.reduceLeDiff,Nat.reduceSub,Nat.reduceAdd,Int.reduceToNat,Nat.reducePow,Int.reducePow,Int.reduceLE,Int.reduceLT,IntKind.bits,Hi,Hj,tn,pT,Int.reduceGT,Int.reduceGE,Int.reduceBEq,or_self,or_true,true_or,Int.reduceEq]<;>decide)
def tX:bq where
 pre:=fun ds=>∃(K:Int) (Q:Int),ds=[cl K Q]
 res:=fun ds=>match ds with
  |[.agg [.int _ K,.int _ Q]]=> .bool (decide (0≤Q∧Q≤40∧-1099511627776≤K∧K≤1099511627776))
  |_=> .nilp
theorem aji (Γ:Env) (ds:List D) (h:tX.pre ds):bH Γ JH JI ds fun d=>d=tX.res ds:=by
 obtain⟨K,Q,rfl⟩:=h
 by_cases h1:0≤Q<;>by_cases h2:Q≤40<;>by_cases al: -1099511627776≤K<;>by_cases aE:K≤1099511627776<;>
  simp (maxSteps:=2000000) only[↓ak,aj,↓reduceIte,reduceCtorEq,Nat.reduceEqDiff,Nat.reduceLeDiff,Nat.reduceSub,Nat.reduceAdd,Int.reduceToNat,Nat.reducePow,Int.reducePow,Int.reduceLE,Int.reduceLT,IntKind.bits,JH,JI,tX,cl,h1,h2,al,aE,ge_iff_le,and_self,and_true,true_and,and_false,false_and]
def d1:a3:=⟨false,1,0⟩
theorem Da:mk false 1 0=d1:=by decide+kernel
theorem c8:ai 1=[1]:=by decide+kernel
theorem Vl:cv d1:=by rw[←Da];exact qZ (fun _=>by decide+kernel)
def oL:bq where
 pre:=fun ds=>ds=[.int .i64 1]
 res:=fun ds=>aR d1
theorem afS (Γ:Env) (Kz:Γ.has 86 iO) (Db:Γ.has 87 eQ) (ds:List D) (h:oL.pre ds):bH Γ G6 G7 ds fun d=>d=oL.res ds:=by
 cases h
 have p1:iO.pre [.int .i64 1]:=⟨1,rfl,by simp only[aG];omega⟩
 have bP:iO.res [.int .i64 1]= .ints .i64 [1]:=by simp only[iO,a7,Int.reduceToNat,c8]
 have cS:eQ.pre [.bool false,.ints .i64 [1],.int .i64 0]:=⟨false,1,0,by rw[a7,c8],by rw[c8];decide,by omega,by omega⟩
 have v1:val [1]=1:=by rw[←c8];exact bO 1
 have ca:eQ.res [.bool false,.ints .i64 [1],.int .i64 0]=aR d1:=by simp only[eQ,v1,Da]
 simp (maxSteps:=2000000) only[↓ak,aj,↓reduceIte,reduceCtorEq,Nat.reduceEqDiff,Nat.reduceLeDiff,Nat.reduceSub,Nat.reduceAdd,Int.reduceToNat,Nat.reducePow,Int.reducePow,Int.reduceLE,Int.reduceLT,IntKind.bits,G6,G7,Kz,Db,p1,bP,cS,ca,oL,aR,Int.reduceGT,Int.reduceNeg,Int.reduceSub,Int.zero_sub]
 ((repeat' apply And.intro)<;>first|assumption|with_reducible rfl|omega|(simp only[aG];omega)|exact⟨_,rfl⟩|exact⟨_,_,_,rfl⟩|exact⟨_,_,_,_,_,_,rfl⟩)
def fN (x:a3) (n:Int):a3:=if 0≤x.e+n then x else mk x.neg (x.m / 2^(-x.e - n).toNat+if x.neg then 1 else 0) (-n)
def iQ:bq where
 pre:=fun ds=>∃(x:a3) (n:Int),ds=[aR x,.int .i64 n]∧cv x∧0≤n∧n≤1000
 res:=fun ds=>match ds with
  |[p,.int _ n]=>aR (fN (dO p) n)
  |_=> .nilp
theorem ajj (Γ:Env) (KA:Γ.has 64 gT) (ajk:Γ.has 84 jR) (ajl:Γ.has 85 jv) (Kz:Γ.has 86 iO) (Db:Γ.has 87 eQ) (ds:List D) (h:iQ.pre ds):bH Γ Ja Jb ds fun d=>d=iQ.res ds:=by
 obtain⟨x,n,rfl,ah,dj,hz⟩:=h
 have ex:=iM ah
 have cP:=ie ah
 have cq:iQ.res [aR x,.int .i64 n]=aR (fN x n):=by simp only[iQ,aR,a7,b0]
 rw[cq]
 unfold fN
 rw[fP]
 unfold Ja Jb
 refine bX (fun s=>s.af 1= .d (.int .i64 n)∧s.af 2= .box 2 0∧s.aw 2=some ⟨false,false,.cells [.d (.bool x.neg),.d (.ints .i64 (ai x.m)),.d (.int .i64 x.e)]⟩∧s.af 4= .box 4 0∧s.aw 4=some ⟨false,false,.cells [.d (.bool false),.d (.ints .i64 []),.d (.int .i64 0)]⟩) ?_ ?_
 ·simp (maxSteps:=2000000) only[↓ak,aj,↓reduceIte,reduceCtorEq,Nat.reduceEqDiff,Nat.reduceLeDiff,Nat.reduceSub,Nat.reduceAdd,Int.reduceToNat,Nat.reducePow,Int.reducePow,Int.reduceLE,Int.reduceLT,IntKind.bits,aR]
 rintro s ⟨h1,h2,aY,aE,aU⟩
 by_cases ad:0≤x.e+n
 ·have bY:x.e+n≥0:=ad
  have n8:gT.pre [.agg [.bool x.neg,.ints .i64 (ai x.m),.int .i64 x.e],.int .i64 0]:=⟨x,0,rfl,ah,by omega,by omega⟩
  have n9:gT.res [.agg [.bool x.neg,.ints .i64 (ai x.m),.int .i64 x.e],.int .i64 0]= .agg [.bool x.neg,.ints .i64 (ai x.m),.int .i64 x.e]:=by
   simp only[gT,b0,zM ah.1,aR,a7]
  rw[if_pos ad]
  simp (maxSteps:=2000000) only[↓ak,aj,↓reduceIte,reduceCtorEq,Nat.reduceEqDiff,Nat.reduceLeDiff,Nat.reduceSub,Nat.reduceAdd,Int.reduceToNat,Nat.reducePow,Int.reducePow,Int.reduceLE,Int.reduceLT,IntKind.bits,h1,h2,aY,aE,aU,bY,KA,n8,n9,aR]
  ((repeat' apply And.intro)<;>first|assumption|with_reducible rfl|omega|(simp only[aG];omega)|exact⟨_,rfl⟩|exact⟨_,_,_,rfl⟩|exact⟨_,_,_,_,_,_,rfl⟩)
 ·have bY:¬(x.e+n≥0):=ad
  obtain⟨k,ek⟩:∃k:Int,k= -x.e - n:=⟨_,rfl⟩
  have Ct: -x.e - n=k:=ek.symm
  obtain⟨M,cj⟩:∃M,M=x.m / 2^k.toNat:=⟨_,rfl⟩
  have mP:jR.res [.ints .i64 (ai x.m),.int .i64 k]= .ints .i64 (ai M):=by simp only[jR,bO,←cj,a7]
  have rU:jR.pre [.ints .i64 (ai x.m),.int .i64 k]:=⟨_,_,rfl,cN _,by omega,by simp only[aG];omega⟩
  have Ll:x.m<16777216^(ai x.m).length:=by have:=ib (cN x.m);rwa [bO]at this
  have KB:M≤x.m:=cj▸Nat.div_le_self _ _
  have ajm:(ai (M+1)).length≤(ai x.m).length+1:=qN (by rw[Nat.pow_succ];omega)
  have zk:(ai M).length≤(ai x.m).length:=qN (Nat.lt_of_le_of_lt KB Ll)
  rw[if_neg ad,←ek,←cj]
  refine bX (fun s=>s.af 1= .d (.int .i64 n)∧s.af 2= .box 2 0∧s.aw 2=some ⟨false,false,.cells [.d (.bool x.neg),.d (.ints .i64 (ai x.m)),.d (.int .i64 x.e)]⟩∧s.af 4= .box 4 0∧s.aw 4=some ⟨false,false,.cells [.d (.bool false),.d (.ints .i64 []),.d (.int .i64 0)]⟩) ?_ ?_
  ·simp (maxSteps:=2000000) only[↓ak,aj,↓reduceIte,reduceCtorEq,Nat.reduceEqDiff,Nat.reduceLeDiff,Nat.reduceSub,Nat.reduceAdd,Int.reduceToNat,Nat.reducePow,Int.reducePow,Int.reduceLE,Int.reduceLT,IntKind.bits,h1,h2,aY,aE,aU,bY]
   ((repeat' apply And.intro)<;>first|assumption|with_reducible rfl|omega|(simp only[aG];omega)|exact⟨_,rfl⟩|exact⟨_,_,_,rfl⟩|exact⟨_,_,_,_,_,_,rfl⟩)
  rintro s ⟨h1,h2,aY,aE,aU⟩
  refine bX (fun s=>s.af 5= .d (.ints .i64 (ai M))∧s.af 1= .d (.int .i64 n)∧s.af 2= .box 2 0∧s.aw 2=some ⟨false,false,.cells [.d (.bool x.neg),.d (.ints .i64 (ai x.m)),.d (.int .i64 x.e)]⟩∧s.af 4= .box 4 0∧s.aw 4=some ⟨false,false,.cells [.d (.bool false),.d (.ints .i64 []),.d (.int .i64 0)]⟩) ?_ ?_
  ·simp (maxSteps:=2000000) only[↓ak,aj,↓reduceIte,reduceCtorEq,Nat.reduceEqDiff,Nat.reduceLeDiff,Nat.reduceSub,Nat.reduceAdd,Int.reduceToNat,Nat.reducePow,Int.reducePow,Int.reduceLE,Int.reduceLT,IntKind.bits,h1,h2,aY,aE,aU,Ct,ajk,rU,mP,Int.zero_sub]
   ((repeat' apply And.intro)<;>first|assumption|with_reducible rfl|omega|(simp only[aG];omega)|exact⟨_,rfl⟩|exact⟨_,_,_,rfl⟩|exact⟨_,_,_,_,_,_,rfl⟩)
  rintro s ⟨aI,h1,h2,aY,aE,aU⟩
  cases aH:x.neg with
  |false=>
   rw[aH]at aY
   have qc:eQ.pre [.bool false,.ints .i64 (ai M),.int .i64 (-n)]:=⟨_,M,_,rfl,by omega,by omega,by omega⟩
   have qd:eQ.res [.bool false,.ints .i64 (ai M),.int .i64 (-n)]=aR (mk false M (-n)):=by simp only[eQ,bO]
   simp (maxSteps:=2000000) only[↓ak,aj,↓reduceIte,reduceCtorEq,Nat.reduceEqDiff,Nat.reduceLeDiff,Nat.reduceSub,Nat.reduceAdd,Int.reduceToNat,Nat.reducePow,Int.reducePow,Int.reduceLE,Int.reduceLT,IntKind.bits,aI,h1,h2,aY,aE,aU,Db,qc,qd,aR,Int.zero_sub,Nat.add_zero,Bool.false_eq_true]
   ((repeat' apply And.intro)<;>first|assumption|with_reducible rfl|omega|(simp only[aG];omega)|exact⟨_,rfl⟩|exact⟨_,_,_,rfl⟩|exact⟨_,_,_,_,_,_,rfl⟩)
  |true=>
   rw[aH]at aY
   have p1:iO.pre [.int .i64 1]:=⟨1,rfl,by simp only[aG];omega⟩
   have bP:iO.res [.int .i64 1]= .ints .i64 [1]:=by simp only[iO,a7,Int.reduceToNat,c8]
   have v1:val [1]=1:=by rw[←c8];exact bO 1
   have cS:jv.pre [.ints .i64 (ai M),.ints .i64 [1]]:=⟨_,_,rfl,cN _,c8▸cN 1,by omega,by decide⟩
   have ca:jv.res [.ints .i64 (ai M),.ints .i64 [1]]= .ints .i64 (ai (M+1)):=by simp only[jv,bO,v1,a7]
   have qc:eQ.pre [.bool true,.ints .i64 (ai (M+1)),.int .i64 (-n)]:=⟨_,M+1,_,rfl,by omega,by omega,by omega⟩
   have qd:eQ.res [.bool true,.ints .i64 (ai (M+1)),.int .i64 (-n)]=aR (mk true (M+1) (-n)):=by simp only[eQ,bO]
   simp (maxSteps:=2000000) only[↓ak,aj,↓reduceIte,reduceCtorEq,Nat.reduceEqDiff,Nat.reduceLeDiff,Nat.reduceSub,Nat.reduceAdd,Int.reduceToNat,Nat.reducePow,Int.reducePow,Int.reduceLE,Int.reduceLT,IntKind.bits,aI,h1,h2,aY,aE,aU,Db,Kz,ajl,p1,bP,cS,ca,qc,qd,aR,Int.zero_sub]
   ((repeat' apply And.intro)<;>first|assumption|with_reducible rfl|omega|(simp only[aG];omega)|exact⟨_,rfl⟩|exact⟨_,_,_,rfl⟩|exact⟨_,_,_,_,_,_,rfl⟩)
end RV.Dr
namespace RV
open Go
section
variable {Γ:Env} {σ:St} {K:St→Prop}
theorem Md:∀(a b:List (bE×List Nat)) (σ:St),cG Γ (cG Γ K b) a σ→cG Γ K (a++b) σ
 |[],_,_,h=>h
 |o::r,b,σ,h=>by
  simp only[cG,List.cons_append]at*
  have key:cG Γ (cG Γ K b) r=fun s=>cG Γ (cG Γ K b) r s:=rfl
  have hm:∀s,cG Γ (cG Γ K b) r s→cG Γ K (r++b) s:=fun s ay=>Md r b s ay
  have:=sB (Γ:=Γ) hm (os:=[o]) (σ:=σ) (by simpa only[cG]using h)
  simpa only[cG]using this
theorem uM (n:Nat) (R:St→Prop) {ops:List (bE×List Nat)} (h:cG Γ R (ops.take n) σ) (ar:∀s,R s→cG Γ K (ops.drop n) s):cG Γ K ops σ:=by
 have:=Md (Γ:=Γ) (K:=K) (ops.take n) (ops.drop n) σ (sB ar h)
 rwa [List.take_append_drop]at this
theorem Ek:∀{ops:List (bE×List Nat)} {σ:St},(ops.all fun o=> !o.1.op.makes)=true→je σ ops=σ
 |[],_,_=>rfl
 |o::r,σ,h=>by
  simp only[List.all_cons,Bool.and_eq_true,Bool.not_eq_true']at h
  simp only[je,h.1]
  exact Ek h.2
end
end RV
namespace RV.Dr
open Go RV
set_option linter.unusedSimpArgs false
set_option linter.unusedVariables false
set_option maxRecDepth 100000
set_option maxHeartbeats 4000000
def jg (b:Bool) (xs:List Int) (e:Int):Bool:=decide (xs.length≤8) && (kg b xs e && (decide (e≤200) && decide (-200≤e)))
def sO:List D→Bool
 |[.bool b,.ints _ xs,.int _ e]=>jg b xs e
 |_=>false
def afT (r:List D):Prop:=∃(b:Bool) (xs:List Int) (e:Int),r=[.bool b,.ints .i64 xs,.int .i64 e]
def r2:bq where
 pre:=fun ds=>∃rows:List (List D),ds=[.recs 3 rows]∧(∀r∈rows,afT r)∧rows.length≤1000
 res:=fun ds=>match ds with
  |[.recs _ rows]=> .bool (rows.all sO)
  |_=> .nilp
theorem FI {α:Type} {p:α→Bool} {l:List α} {i:Nat} (h:i<l.length) (aS:p l[i]=false):l.all p=false:=by
 rw[List.all_eq_false]
 exact⟨l[i],List.getElem_mem h,by simp[aS]⟩
theorem ajn (Γ:Env) (f55:Γ.fn 55=some kp) (Dc:Γ.mt 55=none) (ds:List D) (h:r2.pre ds):bH Γ Ip Iq ds fun d=>d=r2.res ds:=by
 obtain⟨rows,rfl,HJ,hlen⟩:=h
 have cq:r2.res [.recs 3 rows]= .bool (rows.all sO):=rfl
 rw[cq]
 have DD:kp.own=false:=rfl
 rw[fP]
 unfold Ip Iq
 refine cc (fun s=>s.af 0= .d (.recs 3 rows)) ?_ ?_
 ·simp (maxSteps:=2000000) only[↓ak,aj,↓reduceIte,reduceCtorEq,Nat.reduceEqDiff,Nat.reduceLeDiff,Nat.reduceSub,Nat.reduceAdd,Int.reduceToNat,Nat.reducePow,Int.reducePow,Int.reduceLE,Int.reduceLT,IntKind.bits]
 rintro s h0
 refine cc (fun s=>∀k (ad:k<rows.length),sO rows[k]=true) ?_ ?_
 ·simp (maxSteps:=2000000) only[↓ak,aj,↓reduceIte,reduceCtorEq,Nat.reduceEqDiff,Nat.reduceLeDiff,Nat.reduceSub,Nat.reduceAdd,Int.reduceToNat,Nat.reducePow,Int.reducePow,Int.reduceLE,Int.reduceLT,IntKind.bits,h0]
  refine eC (fun s=>∃i:Nat,s.af 0= .d (.recs 3 rows)∧s.af 3= .d (.int .i64 i)∧i≤rows.length∧∀k (ad:k<rows.length),k<i→sO rows[k]=true)
   (fun s=>match s.af 3 with| .d (.int _ n)=>rows.length - n.toNat|_=>0) ?_ ?_
  ·refine⟨0,?_⟩
   simp (maxSteps:=2000000) only[↓ak,aj,↓reduceIte,reduceCtorEq,Nat.reduceEqDiff,Nat.reduceLeDiff,Nat.reduceSub,Nat.reduceAdd,Int.reduceToNat,Nat.reducePow,Int.reducePow,Int.reduceLE,Int.reduceLT,IntKind.bits,h0]
   exact⟨rfl,Nat.zero_le _,fun k ad KC=>absurd KC (Nat.not_lt_zero _)⟩
  clear h0
  rintro s ⟨i,h0,al,hi,ad⟩
  have wu:=al
  refine cc (fun s=>(i:Int)<rows.length∧s.af 0= .d (.recs 3 rows)∧s.af 3= .d (.int .i64 i)) ?_ ?_
  ·by_cases ci:(i:Int)<rows.length
   ·simp (maxSteps:=2000000) only[↓ak,aj,↓reduceIte,reduceCtorEq,Nat.reduceEqDiff,Nat.reduceLeDiff,Nat.reduceSub,Nat.reduceAdd,Int.reduceToNat,Nat.reducePow,Int.reducePow,Int.reduceLE,Int.reduceLT,IntKind.bits,h0,al,ci]
   ·simp (maxSteps:=2000000) only[↓ak,aj,↓reduceIte,reduceCtorEq,Nat.reduceEqDiff,Nat.reduceLeDiff,Nat.reduceSub,Nat.reduceAdd,Int.reduceToNat,Nat.reducePow,Int.reducePow,Int.reduceLE,Int.reduceLT,IntKind.bits,h0,al,ci]
    exact fun k bY=>ad k bY (by omega)
  clear h0 al
  rintro s ⟨ci,h0,al⟩
  have fF:i<rows.length:=by omega
  obtain⟨b,xs,e,aq⟩:=HJ rows[i] (List.getElem_mem fF)
  have bb:rows.getD i []=[.bool b,.ints .i64 xs,.int .i64 e]:=by
   rw[List.getD_eq_getElem?_getD,List.getElem?_eq_getElem fF,Option.getD_some,aq]
  have mN:sO rows[i]=jg b xs e:=by rw[aq];rfl
  refine cc (fun s=>jg b xs e=true∧s.af 0= .d (.recs 3 rows)∧s.af 3= .d (.int .i64 i)) ?_ ?_
  rotate_left
  ·clear h0 al
   rintro s ⟨KD,h0,al⟩
   simp (maxSteps:=2000000) only[↓ak,aj,↓reduceIte,reduceCtorEq,Nat.reduceEqDiff,Nat.reduceLeDiff,Nat.reduceSub,Nat.reduceAdd,Int.reduceToNat,Nat.reducePow,Int.reducePow,Int.reduceLE,Int.reduceLT,IntKind.bits,h0,al]
   refine⟨by simp only[aG];omega,⟨i+1,by omega,by omega,fun k bY kl=> ?_⟩,?_⟩
   ·rcases Nat.lt_or_ge k i with h|h
    ·exact ad k bY h
    ·have:k=i:=by omega
     subst this
     rw[mN];exact KD
   ·rw[wu]
    show rows.length - _<rows.length - _
    omega
  rw[jF]
  refine cc (fun s=>s.af 40= .d (.bool (!jg b xs e))∧s.af 0= .d (.recs 3 rows)∧s.af 3= .d (.int .i64 i)) ?_ ?_
  ·have o0:jg b xs e=(decide (xs.length≤8) && (kg b xs e && (decide (e≤200) && decide (-200≤e)))):=rfl
   by_cases bB:(xs.length:Int)>8
   ·have ar:jg b xs e=false:=by rw[o0,decide_eq_false (by omega)];rfl
    simp (maxSteps:=2000000) only[↓ak,aj,↓reduceIte,reduceCtorEq,Nat.reduceEqDiff,Nat.reduceLeDiff,Nat.reduceSub,Nat.reduceAdd,Int.reduceToNat,Nat.reducePow,Int.reducePow,Int.reduceLE,Int.reduceLT,IntKind.bits,h0,al,ci,fF,bb,Int.toNat_natCast,bB,ar,Bool.not_false]
    try omega
   ·have DE:kp.pre [.agg [.bool b,.ints .i64 xs,.int .i64 e]]:=⟨b,xs,e,rfl,by omega⟩
    have wv:kp.res [.agg [.bool b,.ints .i64 xs,.int .i64 e]]= .bool (kg b xs e):=rfl
    rw[decide_eq_true (show xs.length≤8 by omega),Bool.true_and]at o0
    cases cu:kg b xs e with
    |false=>
     rw[cu]at wv o0
     have ar:jg b xs e=false:=by rw[o0];rfl
     simp (maxSteps:=2000000) only[↓ak,aj,↓reduceIte,reduceCtorEq,Nat.reduceEqDiff,Nat.reduceLeDiff,Nat.reduceSub,Nat.reduceAdd,Int.reduceToNat,Nat.reducePow,Int.reducePow,Int.reduceLE,Int.reduceLT,IntKind.bits,h0,al,ci,fF,bb,Int.toNat_natCast,bB,ar,Bool.not_false,f55,Dc,DD,DE,wv]
     try omega
    |true=>
     rw[cu]at wv o0
     rw[Bool.true_and]at o0
     by_cases eU:e>200
     ·have ar:jg b xs e=false:=by rw[o0,decide_eq_false (by omega)];rfl
      simp (maxSteps:=2000000) only[↓ak,aj,↓reduceIte,reduceCtorEq,Nat.reduceEqDiff,Nat.reduceLeDiff,Nat.reduceSub,Nat.reduceAdd,Int.reduceToNat,Nat.reducePow,Int.reducePow,Int.reduceLE,Int.reduceLT,IntKind.bits,h0,al,ci,fF,bb,Int.toNat_natCast,bB,ar,Bool.not_false,Bool.not_true,f55,Dc,DD,DE,wv,eU]
      try omega
     ·rw[decide_eq_true (show e≤200 by omega),Bool.true_and]at o0
      by_cases wx:e< -200
      ·have ar:jg b xs e=false:=by rw[o0,decide_eq_false (by omega)]
       simp (maxSteps:=2000000) only[↓ak,aj,↓reduceIte,reduceCtorEq,Nat.reduceEqDiff,Nat.reduceLeDiff,Nat.reduceSub,Nat.reduceAdd,Int.reduceToNat,Nat.reducePow,Int.reducePow,Int.reduceLE,Int.reduceLT,IntKind.bits,h0,al,ci,fF,bb,Int.toNat_natCast,bB,ar,Bool.not_false,Bool.not_true,f55,Dc,DD,DE,wv,eU,wx]
       try omega
      ·have ar:jg b xs e=true:=by rw[o0,decide_eq_true (by omega)]
       simp (maxSteps:=2000000) only[↓ak,aj,↓reduceIte,reduceCtorEq,Nat.reduceEqDiff,Nat.reduceLeDiff,Nat.reduceSub,Nat.reduceAdd,Int.reduceToNat,Nat.reducePow,Int.reducePow,Int.reduceLE,Int.reduceLT,IntKind.bits,h0,al,ci,fF,bb,Int.toNat_natCast,bB,ar,Bool.not_false,Bool.not_true,f55,Dc,DD,DE,wv,eU,wx]
       try omega
  clear h0 al
  rintro s ⟨rM,h0,al⟩
  cases ar:jg b xs e with
  |true=>
   rw[ar]at rM
   rw[Bool.not_true]at rM
   simp (maxSteps:=2000000) only[↓ak,aj,↓reduceIte,reduceCtorEq,Nat.reduceEqDiff,Nat.reduceLeDiff,Nat.reduceSub,Nat.reduceAdd,Int.reduceToNat,Nat.reducePow,Int.reducePow,Int.reduceLE,Int.reduceLT,IntKind.bits,rM,h0,al]
  |false=>
   rw[ar]at rM
   rw[Bool.not_false]at rM
   have fB:=FI fF (mN.trans ar)
   simp (maxSteps:=2000000) only[↓ak,aj,↓reduceIte,reduceCtorEq,Nat.reduceEqDiff,Nat.reduceLeDiff,Nat.reduceSub,Nat.reduceAdd,Int.reduceToNat,Nat.reducePow,Int.reducePow,Int.reduceLE,Int.reduceLT,IntKind.bits,rM,h0,al,fB]
 ·intro s ad
  have fB:rows.all sO=true:=by
   rw[List.all_eq_true]
   intro r aq
   obtain⟨k,bY,rfl⟩:=List.mem_iff_getElem.1 aq
   exact ad k bY
  simp (maxSteps:=2000000) only[↓ak,aj,↓reduceIte,reduceCtorEq,Nat.reduceEqDiff,Nat.reduceLeDiff,Nat.reduceSub,Nat.reduceAdd,Int.reduceToNat,Nat.reducePow,Int.reducePow,Int.reduceLE,Int.reduceLT,IntKind.bits,fB]
theorem acb {b:Bool} {xs:List Int} {e:Int} (h:jg b xs e=true):xs=ai (val xs)∧(⟨b,val xs,e⟩:a3).win (-200) 400:=by
 unfold jg at h
 simp only[Bool.and_eq_true,decide_eq_true_eq]at h
 obtain⟨h1,h2,al,aE⟩:=h
 obtain⟨ea,ft⟩:=acW h2
 refine⟨ea.symm,ft.1,fun h0=>⟨aE,?_⟩⟩
 have ar:=sr (val xs)
 rw[ea]at ar
 show e+(bc (val xs):Int)≤400
 omega
theorem acd {b:Bool} {xs:List Int} {e:Int} (h:jg b xs e=true):∃x:a3,b=x.neg∧xs=ai x.m∧e=x.e∧x.win (-200) 400:=by
 obtain⟨h1,h2⟩:=acb h
 exact⟨⟨b,val xs,e⟩,rfl,h1,rfl,h2⟩
def fw (E:Int) (d:a3):Prop:=d.m≠0→E≤d.e
theorem fw.of {lo hi E:Int} {d:a3} (h:d.win lo hi) (l:E≤lo):fw E d:=win.lo h l
theorem fw.mul {E F:Int} {a b:a3} (a2:fw E a) (ar:fw F b):fw (E+F) (cH a b):=by
 unfold cH
 intro h
 have h0:=Fb h
 have c8:=a2 fun e=>h0 (by rw[e,Nat.zero_mul])
 have hP:=ar fun e=>h0 (by rw[e,Nat.mul_zero])
 exact j9 (lo:=E+F) (by omega) h
theorem EX (lt:a3→a3→Bool):∀(l:List a3) (m:a3),dG lt m l∈m::l
 |[],m=>by simp[dG]
 |y::ax,m=>by
  have h:=EX lt ax (if lt y m=true then y else m)
  simp only[dG,List.mem_cons]at h⊢
  split at h<;>rcases h with h|h<;>simp_all
theorem w7 (x y:bD):(cO x y).lo∈h9 x y∧(cO x y).hi∈h9 x y:=⟨EX ..,EX ..⟩
theorem MC {lo hi lo' hi':Int} {a b c d:a3} (a2:a.win lo hi) (ar:b.win lo hi) (ao:c.win lo' hi') (aC:d.win lo' hi'):∀z∈h9 ⟨a,b⟩ ⟨c,d⟩,z.win (lo+lo') (hi+hi'):=by
 intro z bg
 simp only[h9,List.mem_cons,List.not_mem_nil,or_false]at bg
 rcases bg with rfl|rfl|rfl|rfl
 ·exact w5 a2 ao
 ·exact w5 a2 aC
 ·exact w5 ar ao
 ·exact w5 ar aC
theorem ace {lo hi lo' hi':Int} {a b c d:a3} (a2:a.win lo hi) (ar:b.win lo hi) (ao:c.win lo' hi') (aC:d.win lo' hi'):(cO ⟨a,b⟩ ⟨c,d⟩).lo.win (lo+lo') (hi+hi')∧(cO ⟨a,b⟩ ⟨c,d⟩).hi.win (lo+lo') (hi+hi'):=
 ⟨MC a2 ar ao aC _ (w7 _ _).1,MC a2 ar ao aC _ (w7 _ _).2⟩
theorem fw.add {E:Int} {a b:a3} (a2:fw E a) (ar:fw E b):fw E (dR a b):=Fc a2 ar
theorem fw.shift {E:Int} {a:a3} (a2:fw E a) (k:Int):fw (E+k) (fx a k):=by
 unfold fx
 intro h
 have h0:=a2 (Fb h)
 exact j9 (lo:=E+k) (by omega) h
theorem sA {lo hi:Int} {x:a3} (h:x.win lo hi) {n:Int} (aB:lo≤-n) (dZ:0≤hi) (aH:0≤n):(fN x n).win lo (hi+1):=by
 unfold fN
 split
 ·exact win.up h (Int.le_refl _) (by omega)
 ·rename_i ad
  refine qZ fun hm=>⟨aB,?_⟩
  have ay:=As x.m (-x.e - n).toNat
  have a2:=sw (x.m / 2^(-x.e - n).toNat) (if x.neg=true then 1 else 0)
  have h1:bc (if x.neg=true then 1 else 0)≤1:=by split<;>decide
  by_cases ar:bc x.m≤(-x.e - n).toNat
  ·rw[Nat.div_eq_of_lt (hS.1 ar),Nat.zero_add]
   omega
  ·have h0:x.m≠0:=fun h=>ar (by rw[h,j2];omega)
   have hw:=h.2 h0
   omega
def eo (i:bD) (n:Int):bD:=⟨fN i.lo n,dI (fN (dI i.hi) n)⟩
def fK (i:bD) (n:Int):Bool:=decide (hp (fx (pN (eo i n)) n) d1≤0)
def DF (x:a3):Prop:=x.win (-25000) 25000
def oM:bq where
 pre:=fun ds=>ds=[]
 res:=fun ds=>aQ ⟨d1,d1⟩
theorem afU (Γ:Env) (HK:Γ.has 133 oL) (ajo:Γ.has 18 rV) (ds:List D) (h:oM.pre ds):bH Γ Hw Hx ds fun d=>d=oM.res ds:=by
 cases h
 have p1:oL.pre [.int .i64 1]:=rfl
 have bP:oL.res [.int .i64 1]= .agg [.bool d1.neg,.ints .i64 (ai d1.m),.int .i64 d1.e]:=rfl
 have cS:rV.pre [.agg [.bool d1.neg,.ints .i64 (ai d1.m),.int .i64 d1.e]]:=⟨d1,rfl,Vl⟩
 have ca:rV.res [.agg [.bool d1.neg,.ints .i64 (ai d1.m),.int .i64 d1.e]]=aQ ⟨d1,d1⟩:=by
  have:dO (.agg [.bool d1.neg,.ints .i64 (ai d1.m),.int .i64 d1.e])=d1:=b0 _
  simp only[rV,this,pD]
 simp (maxSteps:=2000000) only[↓ak,aj,↓reduceIte,reduceCtorEq,Nat.reduceEqDiff,Nat.reduceLeDiff,Nat.reduceSub,Nat.reduceAdd,Int.reduceToNat,Nat.reducePow,Int.reducePow,Int.reduceLE,Int.reduceLT,IntKind.bits,Hw,Hx,HK,ajo,p1,bP,cS,ca,oM,aQ]
def rp:bq where
 pre:=fun ds=>∃(x:bD) (n:Int),ds=[aQ x,.int .i64 n]∧DF x.lo∧DF x.hi∧0≤n∧n≤1000
 res:=fun ds=>match ds with
  |[p,.int _ n]=> .ep [aQ (eo (fv p) n),.bool (fK (fv p) n)]
  |_=> .nilp
theorem afV (Γ:Env) (y5:Γ.has 44 iQ) (ajp:Γ.has 67 mU) (ajq:Γ.has 25 vQ) (KA:Γ.has 64 gT) (HK:Γ.has 133 oL) (ajr:Γ.has 57 jS) (ds:List D) (h:rp.pre ds):bH Γ Gz GA ds fun d=>d=rp.res ds:=by
 obtain⟨x,n,rfl,ez,e2,dj,hz⟩:=h
 have bW:cv x.lo:=win.up ez (by omega) (by omega)
 have cy:cv x.hi:=win.up e2 (by omega) (by omega)
 have f1:=sA ez (n:=n) (by omega) (by omega) dj
 have f2:=sA (kB e2) (n:=n) (by omega) (by omega) dj
 have f3:=kB f2
 have g:=Au f3 (kB f1)
 have sh:=Ei g n
 have one:oL.pre [.int .i64 1]:=rfl
 simp (maxSteps:=2000000) only[↓ak,aj,↓reduceIte,reduceCtorEq,Nat.reduceEqDiff,Nat.reduceLeDiff,Nat.reduceSub,Nat.reduceAdd,Int.reduceToNat,Nat.reducePow,Int.reducePow,Int.reduceLE,Int.reduceLT,IntKind.bits,Gz,GA,rp,aQ,dw,y5,iQ,ajp,mU,ajq,vQ,KA,gT,HK,oL,ajr,jS,b0,aR,eo,fK]
 exact⟨by decide,by decide,⟨_,_,rfl,bW,dj,hz⟩,by decide,by decide,⟨_,rfl,cy⟩,⟨dI x.hi,_,rfl,Fg cy,dj,hz⟩,⟨fN (dI x.hi) n,rfl,win.up f2 (by omega) (by omega)⟩,
  ⟨⟨fN x.lo n,dI (fN (dI x.hi) n)⟩,rfl,win.up f1 (by omega) (by omega),win.up f3 (by omega) (by omega)⟩,⟨pN ⟨fN x.lo n,dI (fN (dI x.hi) n)⟩,_,rfl,win.up g (by omega) (by omega),by omega,by omega⟩,
  ⟨fx (pN ⟨fN x.lo n,dI (fN (dI x.hi) n)⟩) n,d1,rfl,win.up sh (by omega) (by omega),Vl⟩,by decide⟩
structure db where
 c:bD
 s:bD
def dp (p:db):D:= .agg [.bool p.c.lo.neg,a7 p.c.lo.m,.int .i64 p.c.lo.e,.bool p.c.hi.neg,a7 p.c.hi.m,.int .i64 p.c.hi.e,.bool p.s.lo.neg,a7 p.s.lo.m,.int .i64 p.s.lo.e,.bool p.s.hi.neg,a7 p.s.hi.m,.int .i64 p.s.hi.e]
def m6:D→db
 | .agg [.bool a,.ints _ b,.int _ c,.bool d,.ints _ e,.int _ f,.bool g,.ints _ h,.int _ i,.bool j,.ints _ k,.int _ l]=>⟨⟨⟨a,val b,c⟩,⟨d,val e,f⟩⟩,⟨⟨g,val h,i⟩,⟨j,val k,l⟩⟩⟩
 |_=>⟨⟨⟨false,0,0⟩,⟨false,0,0⟩⟩,⟨⟨false,0,0⟩,⟨false,0,0⟩⟩⟩
theorem vb (p:db):m6 (dp p)=p:=by unfold dp m6 a7;simp only[bO]
def mw (p q:db) (w:Int):db:=⟨kh (dB (cO p.c q.c) (cZ (cO p.s q.s))) w,kh (dB (cO p.s q.c) (cO p.c q.s)) w⟩
def bD.win (lo hi:Int) (x:bD):Prop:=x.lo.win lo hi∧x.hi.win lo hi
def db.win (lo hi:Int) (p:db):Prop:=p.c.win lo hi∧p.s.win lo hi
theorem mo {lo hi lo' hi':Int} {x y:bD} (ah:x.win lo hi) (hy:y.win lo' hi'):(cO x y).win (lo+lo') (hi+hi'):=ace ah.1 ah.2 hy.1 hy.2
theorem mq {lo hi:Int} {x y:bD} (ah:x.win lo hi) (hy:y.win lo hi):(dB x y).win lo (hi+1):=⟨Au ah.1 hy.1,Au ah.2 hy.2⟩
theorem ll {lo hi:Int} {x:bD} (ah:x.win lo hi):(cZ x).win lo hi:=⟨kB ah.2,kB ah.1⟩
theorem Rc {lo hi:Int} {x:bD} (ah:x.win lo hi) {n:Int} (aH:0≤n):(kh x n).win lo (hi+1):=⟨ET ah.1 n aH _,ET ah.2 n aH _⟩
theorem ff {lo hi lo' hi':Int} {x:bD} (h:x.win lo hi) (l:lo'≤lo) (k:hi≤hi'):x.win lo' hi':=⟨win.up h.1 l k,win.up h.2 l k⟩
theorem Fh {lo hi lo' hi':Int} {p q:db} (aS:p.win lo hi) (aZ:q.win lo' hi') {w:Int} (hw:0≤w):(mw p q w).win (lo+lo') (hi+hi'+2):=
 ⟨ff (Rc (mq (mo aS.1 aZ.1) (ll (mo aS.2 aZ.2))) hw) (by omega) (by omega),ff (Rc (mq (mo aS.2 aZ.1) (mo aS.1 aZ.2)) hw) (by omega) (by omega)⟩
def pW:bq where
 pre:=fun ds=>∃(p q:db) (w:Int),ds=[dp p,dp q,.int .i64 w]∧p.win (-24000) 24000∧q.win (-24000) 24000∧0≤w∧w≤1000
 res:=fun ds=>match ds with
  |[p,q,.int _ w]=>dp (mw (m6 p) (m6 q) w)
  |_=> .nilp
theorem afW (Γ:Env) (ajs:Γ.has 33 tS) (vW:Γ.has 27 jw) (KE:Γ.has 31 lW) (ajt:Γ.has 35 vU) (ds:List D) (h:pW.pre ds):bH Γ HA HB ds fun d=>d=pW.res ds:=by
 obtain⟨p,q,w,rfl,aS,aZ,eA,g9⟩:=h
 have cq:pW.res [dp p,dp q,.int .i64 w]=dp (mw p q w):=by simp only[pW,vb]
 rw[cq]
 have gw:=mo aS.1 aZ.1
 have hG:=mo aS.2 aZ.2
 have oa:=mo aS.2 aZ.1
 have pd:=mo aS.1 aZ.2
 have f2:=ll hG
 have eR:=mq gw f2
 have eX:=mq oa pd
 simp (maxSteps:=2000000) only[↓ak,aj,↓reduceIte,reduceCtorEq,Nat.reduceEqDiff,Nat.reduceLeDiff,Nat.reduceSub,Nat.reduceAdd,Int.reduceToNat,Nat.reducePow,Int.reducePow,Int.reduceLE,Int.reduceLT,IntKind.bits,HA,HB,dp,aQ,dw,mw,ajs,tS,vW,jw,KE,lW,ajt,vU]
 have u:∀{lo hi:Int} {x:bD},x.win lo hi→-25000≤lo→hi≤25000→wk x:=fun h l k=>ff h l k
 have v:∀{lo hi:Int} {x:bD},x.win lo hi→-50000≤lo→hi≤50000→hk x:=fun h l k=>ff h l k
 exact⟨⟨p.c,q.c,rfl,u aS.1 (by omega) (by omega),u aZ.1 (by omega) (by omega)⟩,⟨p.s,q.s,rfl,u aS.2 (by omega) (by omega),u aZ.2 (by omega) (by omega)⟩,
  ⟨cO p.s q.s,rfl,v hG (by omega) (by omega)⟩,⟨cO p.c q.c,cZ (cO p.s q.s),rfl,v gw (by omega) (by omega),v f2 (by omega) (by omega)⟩,
  ⟨dB (cO p.c q.c) (cZ (cO p.s q.s)),w,rfl,v eR (by omega) (by omega),eA,by omega⟩,
  ⟨p.s,q.c,rfl,u aS.2 (by omega) (by omega),u aZ.1 (by omega) (by omega)⟩,⟨p.c,q.s,rfl,u aS.1 (by omega) (by omega),u aZ.2 (by omega) (by omega)⟩,
  ⟨cO p.s q.c,cO p.c q.s,rfl,v oa (by omega) (by omega),v pd (by omega) (by omega)⟩,
  ⟨dB (cO p.s q.c) (cO p.c q.s),w,rfl,v eX (by omega) (by omega),eA,by omega⟩⟩
def fl (x:bD) (w:Int):bD:=if gD (fx x.lo (-1))<0 then ⟨⟨false,0,0⟩,⟨false,0,0⟩⟩else mv (fy x (-1)) w
theorem EY {lo hi:Int} {x:bD} (ah:x.win lo hi) (k:Int):(fy x k).win (lo+k) (hi+k):=⟨Ei ah.1 k,Ei ah.2 k⟩
def pX:bq where
 pre:=fun ds=>∃(x:bD) (w:Int),ds=[aQ x,.ptr [.int .i64 w]]∧x.win (-40000) 40000∧0≤w∧w≤1000
 res:=fun ds=>match ds with
  |[p,.ptr [.int _ w]]=>aQ (fl (fv p) w)
  |_=> .nilp
theorem afX (Γ:Env) (Vm:Γ.has 29 rX) (Vn:Γ.has 15 qf) (ds:List D) (h:pX.pre ds):bH Γ BU BV ds fun d=>d=pX.res ds:=by
 obtain⟨x,w,rfl,ah,eA,g9⟩:=h
 have cq:pX.res [aQ x,.ptr [.int .i64 w]]=aQ (fl x w):=by simp only[pX,aQ,a7,dw]
 rw[cq]
 have akX:=EY ah (-1)
 have p1:rX.pre [aQ x,.int .i64 (-1)]:=⟨x,-1,rfl,ff ah (by omega) (by omega),by omega,by omega⟩
 have bP:rX.res [aQ x,.int .i64 (-1)]=aQ (fy x (-1)):=by simp only[rX,aQ,a7,dw]
 have cS:qf.pre [aQ (fy x (-1)),.int .i64 w]:=⟨fy x (-1),w,rfl,ff akX (by omega) (by omega),eA,g9⟩
 have ca:qf.res [aQ (fy x (-1)),.int .i64 w]=lB (fy x (-1)) w:=by simp only[qf,aQ,a7,dw]
 have a1:(fy x (-1)).lo=fx x.lo (-1):=rfl
 have l8:ai 0=[]:=by decide+kernel
 unfold fl lB at*
 rw[a1]at ca
 by_cases ay:gD (fx x.lo (-1))<0
 ·rw[if_pos ay]at ca⊢
  obtain⟨y,hy⟩:∃y,y=fy x (-1):=⟨_,rfl⟩
  rw[←hy]at cS bP ca
  unfold aQ a7 at p1 bP cS ca
  simp (maxSteps:=2000000) only[↓ak,aj,↓reduceIte,reduceCtorEq,Nat.reduceEqDiff,Nat.reduceLeDiff,Nat.reduceSub,Nat.reduceAdd,Int.reduceToNat,Nat.reducePow,Int.reducePow,Int.reduceLE,Int.reduceLT,IntKind.bits,BU,BV,aQ,Vm,p1,bP,Vn,cS,ca,l8]
  exact⟨by decide,by decide⟩
 ·rw[if_neg ay]at ca⊢
  obtain⟨y,hy⟩:∃y,y=fy x (-1):=⟨_,rfl⟩
  obtain⟨z,bg⟩:∃z,z=mv y w:=⟨_,rfl⟩
  rw[←hy]at cS bP ca⊢
  rw[←bg]at ca⊢
  unfold aQ a7 at p1 bP cS ca
  simp (maxSteps:=2000000) only[↓ak,aj,↓reduceIte,reduceCtorEq,Nat.reduceEqDiff,Nat.reduceLeDiff,Nat.reduceSub,Nat.reduceAdd,Int.reduceToNat,Nat.reducePow,Int.reducePow,Int.reduceLE,Int.reduceLT,IntKind.bits,BU,BV,aQ,Vm,p1,bP,Vn,cS,ca,l8]
  exact⟨by decide,by decide⟩
def jV:bq where
 pre:=fun ds=>∃(x:a3) (n:Int),ds=[aR x,.int .i64 n]∧cv x∧0≤n∧n≤1000
 res:=fun ds=>match ds with
  |[p,.int _ n]=>aR (fN (dO p) n)
  |_=> .nilp
theorem aju (Γ:Env) (C3:Γ.has 88 jt) (oZ:Γ.has 89 hx) (n1:Γ.has 76 dE) (ds:List D) (h:jV.pre ds):bH Γ Jc Jd ds fun d=>d=jV.res ds:=by
 obtain⟨x,n,rfl,ah,dj,hz⟩:=h
 have ex:=iM ah
 have cP:=ie ah
 have aw:=kI ah
 have da:=gy x.m
 have cq:jV.res [aR x,.int .i64 n]=aR (fN x n):=by simp only[jV,aR,a7,b0]
 rw[cq]
 unfold fN
 obtain⟨k,ek⟩:∃k:Int,k= -x.e - n:=⟨_,rfl⟩
 have Ct: -x.e - n=k:=ek.symm
 rw[fP]
 unfold Jc Jd
 refine bX (fun s=>s.af 1= .d (.int .i64 n)∧s.af 2= .box 2 0∧s.aw 2=some ⟨false,false,.cells [.d (.bool x.neg),.d (.ints .i64 (ai x.m)),.d (.int .i64 x.e)]⟩∧s.af 4= .box 4 0∧s.aw 4=some ⟨false,false,.cells [.d (.bool false),.d (.ints .i64 []),.d (.int .i64 0)]⟩) ?_ ?_
 ·simp (maxSteps:=2000000) only[↓ak,aj,↓reduceIte,reduceCtorEq,Nat.reduceEqDiff,Nat.reduceLeDiff,Nat.reduceSub,Nat.reduceAdd,Int.reduceToNat,Nat.reducePow,Int.reducePow,Int.reduceLE,Int.reduceLT,IntKind.bits,aR]
 rintro s ⟨h1,h2,aY,aE,aU⟩
 refine bX (fun s=>s.af 5= .d (.int .i64 k)∧s.af 1= .d (.int .i64 n)∧s.af 2= .box 2 0∧s.aw 2=some ⟨false,false,.cells [.d (.bool x.neg),.d (.ints .i64 (ai x.m)),.d (.int .i64 x.e)]⟩∧s.af 4= .box 4 0∧s.aw 4=some ⟨false,false,.cells [.d (.bool false),.d (.ints .i64 []),.d (.int .i64 0)]⟩) ?_ ?_
 ·simp (maxSteps:=2000000) only[↓ak,aj,↓reduceIte,reduceCtorEq,Nat.reduceEqDiff,Nat.reduceLeDiff,Nat.reduceSub,Nat.reduceAdd,Int.reduceToNat,Nat.reducePow,Int.reducePow,Int.reduceLE,Int.reduceLT,IntKind.bits,h1,h2,aY,aE,aU,Int.zero_sub,Ct]
  ((repeat' apply And.intro)<;>first|assumption|with_reducible rfl|omega|(simp only[aG];omega)|exact⟨_,rfl⟩|exact⟨_,_,_,rfl⟩|exact⟨_,_,_,_,_,_,rfl⟩)
 rintro s ⟨aI,h1,h2,aY,aE,aU⟩
 by_cases ad:0≤x.e+n
 ·have bY:k≤0:=by omega
  rw[if_pos ad]
  simp (maxSteps:=2000000) only[↓ak,aj,↓reduceIte,reduceCtorEq,Nat.reduceEqDiff,Nat.reduceLeDiff,Nat.reduceSub,Nat.reduceAdd,Int.reduceToNat,Nat.reducePow,Int.reducePow,Int.reduceLE,Int.reduceLT,IntKind.bits,aI,h1,h2,aY,aE,aU,bY,aR]
 ·have bY:¬(k≤0):=by omega
  obtain⟨M,cj⟩:∃M,M=x.m / 2^k.toNat:=⟨_,rfl⟩
  have mP:jt.res [.ints .i64 (ai x.m),.int .i64 k]= .ints .i64 (ai M):=by simp only[jt,bO,←cj,a7]
  have rU:jt.pre [.ints .i64 (ai x.m),.int .i64 k]:=⟨_,_,rfl,cN _,by omega,by omega⟩
  have Ll:x.m<16777216^(ai x.m).length:=by have:=ib (cN x.m);rwa [bO]at this
  have KB:M≤x.m:=cj▸Nat.div_le_self _ _
  have ajm:(ai (M+1)).length≤(ai x.m).length+1:=qN (by rw[Nat.pow_succ];omega)
  have zk:(ai M).length≤(ai x.m).length:=qN (Nat.lt_of_le_of_lt KB Ll)
  rw[if_neg ad,←ek,←cj]
  refine bX (fun s=>s.af 5= .d (.int .i64 k)∧s.af 1= .d (.int .i64 n)∧s.af 2= .box 2 0∧s.aw 2=some ⟨false,false,.cells [.d (.bool x.neg),.d (.ints .i64 (ai x.m)),.d (.int .i64 x.e)]⟩∧s.af 4= .box 4 0∧s.aw 4=some ⟨false,false,.cells [.d (.bool false),.d (.ints .i64 []),.d (.int .i64 0)]⟩) ?_ ?_
  ·simp (maxSteps:=2000000) only[↓ak,aj,↓reduceIte,reduceCtorEq,Nat.reduceEqDiff,Nat.reduceLeDiff,Nat.reduceSub,Nat.reduceAdd,Int.reduceToNat,Nat.reducePow,Int.reducePow,Int.reduceLE,Int.reduceLT,IntKind.bits,aI,h1,h2,aY,aE,aU,bY]
  rintro s ⟨aI,h1,h2,aY,aE,aU⟩
  refine bX (fun s=>s.af 6= .d (.ints .i64 (ai M))∧s.af 1= .d (.int .i64 n)∧s.af 2= .box 2 0∧s.aw 2=some ⟨false,false,.cells [.d (.bool x.neg),.d (.ints .i64 (ai x.m)),.d (.int .i64 x.e)]⟩∧s.af 4= .box 4 0∧s.aw 4=some ⟨false,false,.cells [.d (.bool false),.d (.ints .i64 []),.d (.int .i64 0)]⟩) ?_ ?_
  ·simp (maxSteps:=2000000) only[↓ak,aj,↓reduceIte,reduceCtorEq,Nat.reduceEqDiff,Nat.reduceLeDiff,Nat.reduceSub,Nat.reduceAdd,Int.reduceToNat,Nat.reducePow,Int.reducePow,Int.reduceLE,Int.reduceLT,IntKind.bits,aI,h1,h2,aY,aE,aU,C3,rU,mP]
  rintro s ⟨aM,h1,h2,aY,aE,aU⟩
  cases aH:x.neg with
  |false=>
   rw[aH]at aY
   have qc:dE.pre [.bool false,.ints .i64 (ai M),.int .i64 (-n)]:=⟨_,M,_,rfl,by omega,by omega,by omega⟩
   have qd:dE.res [.bool false,.ints .i64 (ai M),.int .i64 (-n)]=aR (mk false M (-n)):=by simp only[dE,bO]
   simp (maxSteps:=2000000) only[↓ak,aj,↓reduceIte,reduceCtorEq,Nat.reduceEqDiff,Nat.reduceLeDiff,Nat.reduceSub,Nat.reduceAdd,Int.reduceToNat,Nat.reducePow,Int.reducePow,Int.reduceLE,Int.reduceLT,IntKind.bits,aM,h1,h2,aY,aE,aU,n1,qc,qd,aR,Int.zero_sub,Nat.add_zero,Bool.false_eq_true]
   ((repeat' apply And.intro)<;>first|assumption|with_reducible rfl|omega|(simp only[aG];omega)|exact⟨_,rfl⟩|exact⟨_,_,_,rfl⟩|exact⟨_,_,_,_,_,_,rfl⟩)
  |true=>
   rw[aH]at aY
   have v1:val [1]=1:=by rw[←c8];exact bO 1
   have cS:hx.pre [.ints .i64 (ai M),.ints .i64 [1]]:=⟨_,_,rfl,cN _,c8▸cN 1,by omega,by decide⟩
   have ca:hx.res [.ints .i64 (ai M),.ints .i64 [1]]= .ints .i64 (ai (M+1)):=by simp only[hx,bO,v1,a7]
   have qc:dE.pre [.bool true,.ints .i64 (ai (M+1)),.int .i64 (-n)]:=⟨_,M+1,_,rfl,by omega,by omega,by omega⟩
   have qd:dE.res [.bool true,.ints .i64 (ai (M+1)),.int .i64 (-n)]=aR (mk true (M+1) (-n)):=by simp only[dE,bO]
   refine bX (fun s=>s.af 6= .d (.ints .i64 (ai (M+1)))∧s.af 1= .d (.int .i64 n)∧s.af 2= .box 2 0∧s.aw 2=some ⟨false,false,.cells [.d (.bool true),.d (.ints .i64 (ai x.m)),.d (.int .i64 x.e)]⟩∧s.af 4= .box 4 0∧s.aw 4=some ⟨false,false,.cells [.d (.bool false),.d (.ints .i64 []),.d (.int .i64 0)]⟩) ?_ ?_
   ·simp (maxSteps:=2000000) only[↓ak,aj,↓reduceIte,reduceCtorEq,Nat.reduceEqDiff,Nat.reduceLeDiff,Nat.reduceSub,Nat.reduceAdd,Int.reduceToNat,Nat.reducePow,Int.reducePow,Int.reduceLE,Int.reduceLT,IntKind.bits,aM,h1,h2,aY,aE,aU,oZ,cS,ca]
   rintro s ⟨aM,h1,h2,aY,aE,aU⟩
   simp (maxSteps:=2000000) only[↓ak,aj,↓reduceIte,reduceCtorEq,Nat.reduceEqDiff,Nat.reduceLeDiff,Nat.reduceSub,Nat.reduceAdd,Int.reduceToNat,Nat.reducePow,Int.reducePow,Int.reduceLE,Int.reduceLT,IntKind.bits,aM,h1,h2,aY,aE,aU,n1,qc,qd,aR,Int.zero_sub]
   ((repeat' apply And.intro)<;>first|assumption|with_reducible rfl|omega|(simp only[aG];omega)|exact⟨_,rfl⟩|exact⟨_,_,_,rfl⟩|exact⟨_,_,_,_,_,_,rfl⟩)
def hQ (e:Int):a3:=⟨false,1,e⟩
theorem Vo (e:Int):mk false 1 e=hQ e:=by
 have:bJ 1=0:=A4 rfl
 unfold mk hQ
 rw[if_neg (by decide),this,Nat.pow_zero,Nat.div_one]
 simp
theorem Rd {lo hi e:Int} (h1:lo≤e) (h2:e+1≤hi):(hQ e).win lo hi:=by
 have ar:bc 1=1:=by decide+kernel
 rw[←Vo];exact qZ (fun _=>⟨h1,by omega⟩)
def tY (i:bD) (n:Int):Bool:=decide (i.lo=i.hi)||decide (hp (pN (eo i n)) (hQ (-n))≤0)
def pe (x:bD) (n:Int) (s:St):Prop:=s.af 1= .d (.int .i64 n)∧s.af 2= .box 2 0∧s.aw 2=some ⟨false,false,.cells [.d (.bool x.lo.neg),.d (.ints .i64 (ai x.lo.m)),.d (.int .i64 x.lo.e),.d (.bool x.hi.neg),.d (.ints .i64 (ai x.hi.m)),.d (.int .i64 x.hi.e)]⟩∧s.af 4= .box 4 0∧s.aw 4=some ⟨false,false,.cells [.d (.bool false),.d (.ints .i64 []),.d (.int .i64 0),.d (.bool false),.d (.ints .i64 []),.d (.int .i64 0)]⟩
def mb (k:Nat) (x:a3) (s:St):Prop:=s.af k= .box k 0∧s.aw k=some ⟨false,false,.cells [.d (.bool x.neg),.d (.ints .i64 (ai x.m)),.d (.int .i64 x.e)]⟩
def l0:bq where
 pre:=fun ds=>∃(x:bD) (n:Int),ds=[aQ x,.int .i64 n]∧DF x.lo∧DF x.hi∧0≤n∧n≤1000
 res:=fun ds=>match ds with
  |[p,.int _ n]=> .ep [aQ (eo (fv p) n),.bool (tY (fv p) n)]
  |_=> .nilp
theorem ajv (Γ:Env) (Dd:Γ.has 45 jV) (C4:Γ.has 48 h4) (Kx:Γ.has 50 jT) (vX:Γ.has 24 hN) (C6:Γ.has 47 mV) (ds:List D) (h:l0.pre ds):bH Γ JP JQ ds fun d=>d=l0.res ds:=by
 obtain⟨x,n,rfl,ez,e2,dj,hz⟩:=h
 have cq:l0.res [aQ x,.int .i64 n]= .ep [aQ (eo x n),.bool (tY x n)]:=by simp only[l0,aQ,a7,dw]
 rw[cq]
 have bW:cv x.lo:=win.up ez (by omega) (by omega)
 have cy:cv x.hi:=win.up e2 (by omega) (by omega)
 have f1:=sA ez (n:=n) (by omega) (by omega) dj
 have f2:=sA (kB e2) (n:=n) (by omega) (by omega) dj
 have f3:=kB f2
 have g:=Au f3 (kB f1)
 have iV:=Rd (lo:= -50000) (hi:=50000) (e:= -n) (by omega) (by omega)
 obtain⟨lo,jm⟩:∃lo,lo=fN x.lo n:=⟨_,rfl⟩
 obtain⟨hi,lM⟩:∃hi,hi=dI (fN (dI x.hi) n):=⟨_,rfl⟩
 have wq:eo x n=⟨lo,hi⟩:=by unfold eo;rw[jm,lM]
 have p1:jV.pre [aR x.lo,.int .i64 n]:=⟨x.lo,n,rfl,bW,dj,hz⟩
 have bP:jV.res [aR x.lo,.int .i64 n]=aR lo:=by simp only[jV,aR,a7,b0,jm]
 have cS:h4.pre [aR x.hi]:=⟨x.hi,rfl⟩
 have ca:h4.res [aR x.hi]=aR (dI x.hi):=by simp only[h4,aR,a7,b0]
 have g2:jV.pre [aR (dI x.hi),.int .i64 n]:=⟨dI x.hi,n,rfl,kB cy,dj,hz⟩
 obtain⟨h0,KF⟩:∃h0,h0=fN (dI x.hi) n:=⟨_,rfl⟩
 have g1:jV.res [aR (dI x.hi),.int .i64 n]=aR h0:=by simp only[jV,aR,a7,b0,KF]
 have si:h4.pre [aR h0]:=⟨h0,rfl⟩
 have wh:h4.res [aR h0]=aR hi:=by simp only[h4,aR,a7,b0,lM,KF]
 rw[←jm]at f1 g
 rw[←lM]at f3 g
 have YY:h4.pre [aR lo]:=⟨lo,rfl⟩
 obtain⟨du,p4⟩:∃du,du=dI lo:=⟨_,rfl⟩
 have Dv:h4.res [aR lo]=aR du:=by simp only[h4,aR,a7,b0,p4]
 have f4:du.win (-25000) (25000+1):=p4▸kB f1
 rw[←p4]at g
 have YZ:jT.pre [aR hi,aR du]:=⟨hi,du,rfl,win.up f3 (by omega) (by omega),win.up f4 (by omega) (by omega)⟩
 obtain⟨pf,De⟩:∃pf,pf=dR hi du:=⟨_,rfl⟩
 have Dw:jT.res [aR hi,aR du]=aR pf:=by simp only[jT,aR,a7,b0,De]
 rw[←De]at g
 have hw:pN (eo x n)=pf:=by rw[wq,De,p4];rfl
 have Lm:hN.pre [aR x.lo,aR x.hi]:=⟨x.lo,x.hi,rfl,bW,cy⟩
 have uo:hN.res [aR x.lo,aR x.hi]= .bool (decide (x.lo=x.hi)):=by simp only[hN,aR,a7,b0]
 have Ln:mV.pre [aR pf,aR (hQ (-n))]:=⟨pf,hQ (-n),rfl,win.up g (by omega) (by omega),iV⟩
 have Dx:mV.res [aR pf,aR (hQ (-n))]= .int .i64 (hp pf (hQ (-n))):=by simp only[mV,aR,a7,b0]
 rw[wq]
 unfold tY
 rw[hw]
 have jY:aR (hQ (-n))= .agg [.bool false,.ints .i64 [1],.int .i64 (-n)]:=by unfold aR hQ a7;rw[c8]
 rw[jY]at Ln Dx
 clear jm lM wq KF p4 De hw
 unfold aR a7 at p1 bP cS ca g2 g1 si wh YY Dv YZ Dw Lm uo Ln Dx
 rw[fP]
 unfold JP JQ
 refine bX (fun s=>pe x n s) ?_ ?_
 ·simp (maxSteps:=2000000) only[↓ak,aj,↓reduceIte,reduceCtorEq,Nat.reduceEqDiff,Nat.reduceLeDiff,Nat.reduceSub,Nat.reduceAdd,Int.reduceToNat,Nat.reducePow,Int.reducePow,Int.reduceLE,Int.reduceLT,IntKind.bits,aQ,a7,pe]
 rintro s ⟨h1,h2,aY,aE,aU⟩
 refine bX (fun s=>pe x n s∧mb 6 lo s) ?_ ?_
 ·simp (maxSteps:=2000000) only[↓ak,aj,↓reduceIte,reduceCtorEq,Nat.reduceEqDiff,Nat.reduceLeDiff,Nat.reduceSub,Nat.reduceAdd,Int.reduceToNat,Nat.reducePow,Int.reducePow,Int.reduceLE,Int.reduceLT,IntKind.bits,h1,h2,aY,aE,aU,pe,mb,Dd,p1,bP]
 rintro s ⟨⟨h1,h2,aY,aE,aU⟩,aM,a0⟩
 refine bX (fun s=>pe x n s∧mb 6 lo s∧mb 7 hi s) ?_ ?_
 ·simp (maxSteps:=2000000) only[↓ak,aj,↓reduceIte,reduceCtorEq,Nat.reduceEqDiff,Nat.reduceLeDiff,Nat.reduceSub,Nat.reduceAdd,Int.reduceToNat,Nat.reducePow,Int.reducePow,Int.reduceLE,Int.reduceLT,IntKind.bits,h1,h2,aY,aE,aU,aM,a0,pe,mb,Dd,C4,cS,ca,g2,g1,si,wh]
 rintro s ⟨⟨h1,h2,aY,aE,aU⟩,⟨aM,a0⟩,a4,cz⟩
 refine bX (fun s=>pe x n s∧mb 6 lo s∧mb 7 hi s∧mb 8 pf s) ?_ ?_
 ·simp (maxSteps:=2000000) only[↓ak,aj,↓reduceIte,reduceCtorEq,Nat.reduceEqDiff,Nat.reduceLeDiff,Nat.reduceSub,Nat.reduceAdd,Int.reduceToNat,Nat.reducePow,Int.reducePow,Int.reduceLE,Int.reduceLT,IntKind.bits,h1,h2,aY,aE,aU,aM,a0,a4,cz,pe,mb,C4,YY,Dv,Kx,YZ,Dw]
  exact⟨by decide,by decide⟩
 rintro s ⟨⟨h1,h2,aY,aE,aU⟩,⟨aM,a0⟩,⟨a4,cz⟩,bz,b3⟩
 by_cases he:x.lo=x.hi
 ·have aC:decide (x.lo=x.hi)=true:=decide_eq_true he
  rw[aC]at uo⊢
  simp (maxSteps:=60000) only[↓ak,aj,↓reduceIte,reduceCtorEq,Nat.reduceEqDiff,Nat.reduceLeDiff,Nat.reduceSub,Nat.reduceAdd,Int.reduceToNat,Nat.reducePow,Int.reducePow,Int.reduceLE,Int.reduceLT,IntKind.bits,h1,h2,aY,aE,aU,aM,a0,a4,cz,bz,b3,aQ,a7,vX,Lm,uo,Bool.true_or]
 ·have aC:decide (x.lo=x.hi)=false:=decide_eq_false he
  rw[aC]at uo⊢
  refine bX (fun s=>pe x n s∧mb 6 lo s∧mb 7 hi s∧mb 8 pf s) ?_ ?_
  ·simp (maxSteps:=60000) only[↓ak,aj,↓reduceIte,reduceCtorEq,Nat.reduceEqDiff,Nat.reduceLeDiff,Nat.reduceSub,Nat.reduceAdd,Int.reduceToNat,Nat.reducePow,Int.reducePow,Int.reduceLE,Int.reduceLT,IntKind.bits,h1,h2,aY,aE,aU,aM,a0,a4,cz,bz,b3,pe,mb,vX,Lm,uo]
  rintro s ⟨⟨h1,h2,aY,aE,aU⟩,⟨aM,a0⟩,⟨a4,cz⟩,bz,b3⟩
  simp (maxSteps:=60000) only[↓ak,aj,↓reduceIte,reduceCtorEq,Nat.reduceEqDiff,Nat.reduceLeDiff,Nat.reduceSub,Nat.reduceAdd,Int.reduceToNat,Nat.reducePow,Int.reducePow,Int.reduceLE,Int.reduceLT,IntKind.bits,h1,h2,aY,aE,aU,aM,a0,a4,cz,bz,b3,aQ,a7,C6,Ln,Dx,Int.zero_sub,Bool.false_or]
  exact⟨by simp only[aG];omega,by decide⟩
theorem sH {a b:Nat} (h:a≤b):(2:Int)^a∣2^b:=⟨2^(b - a),by rw[←Int.pow_add];congr 1;omega⟩
def du (n:Nat) (v:Int):Int:=v / 2^(bc v.natAbs - n)*2^(bc v.natAbs - n)
def lf (n:Nat) (s:Int):Prop:=(2:Int)^(bc s.natAbs - n)∣s
theorem mh (t:Nat):(0:Int)<2^t:=Int.pow_pos (by decide)
theorem F3 (n:Nat) (v:Int):du n v≤v:=Int.ediv_mul_le v (Int.ne_of_gt (mh _))
theorem Re {n:Nat} {v s:Int} (h:(2:Int)^(bc v.natAbs - n)∣s) (l:s≤v):s≤du n v:=by
 obtain⟨c,rfl⟩:=h
 unfold du
 have aS:=mh (bc v.natAbs - n)
 have:c≤v / 2^(bc v.natAbs - n):=by
  rw[Int.le_ediv_iff_mul_le aS,Int.mul_comm];exact l
 rw[Int.mul_comm]
 exact Int.mul_le_mul_of_nonneg_right this (Int.le_of_lt aS)
theorem DM {a:Nat} (h:a≠0):2^(bc a - 1)≤a:=by
 refine Nat.le_of_not_lt fun h1=> ?_
 have:=(hS (n:=a) (k:=bc a - 1)).2 h1
 have:=pw h
 omega
theorem FJ {n:Nat} (aH:1≤n) {v s:Int} (h:lf n s) (l:s≤v):s≤du n v:=by
 unfold lf at h
 by_cases ae:bc v.natAbs - n≤bc s.natAbs - n
 ·exact Re (Int.dvd_trans (sH ae) h) l
 ·have ar:bc s.natAbs<bc v.natAbs:=by omega
  by_cases aA:v<0
  ·have:=qO (show v.natAbs≤s.natAbs by omega)
   omega
  ·have h0:v.natAbs≠0:=fun e=>by rw[e,j2]at ar;omega
   have h1:=DM h0
   have h2:=jb s.natAbs
   have al:2^bc s.natAbs≤2^(bc v.natAbs - 1):=Nat.pow_le_pow_right (by decide) (by omega)
   have aE:((2^(bc v.natAbs - 1):Nat):Int)≤du n v:=by
    refine Re ?_ (by omega)
    rw[Int.natCast_pow]
    exact sH (by omega)
   omega
theorem lf.neg {n:Nat} {s:Int} (h:lf n s):lf n (-s):=by
 unfold lf at*
 rw[Int.natAbs_neg]
 exact Int.dvd_neg.2 h
def gp (n:Nat) (up:Bool) (v:Int):Int:=if up=true then -(du n (-v))else du n v
theorem abt {m k:Nat} (bh:m % 2=1) (br:1≤k) (a:Nat):((m:Int)*2^a) / 2^(k+a)=((m / 2^k:Nat):Int)∧(-(m:Int)*2^a) / 2^(k+a)= -((m / 2^k+1:Nat):Int):=by
 have aS:(0:Int)<2^k:=mh k
 have ao:((2^k:Nat):Int)=2^k:=Int.natCast_pow 2 k
 have aC:=Nat.div_add_mod m (2^k)
 have aB:=Nat.mod_lt m (Nat.two_pow_pos k)
 have aq:m % 2^k≠0:=fun e=>by
  have:=Nat.mod_mod_of_dvd m (show 2∣2^k from ⟨2^(k - 1),by rw[←Nat.pow_succ'];congr 1;omega⟩)
  rw[e]at this
  omega
 rw[Int.pow_add,Int.mul_ediv_mul_of_pos_left _ _ (mh _),Int.mul_ediv_mul_of_pos_left _ _ (mh _)]
 refine⟨by rw[Int.natCast_ediv,ao],?_⟩
 refine((Int.ediv_emod_unique aS (r:=((2^k - m % 2^k:Nat):Int)) (q:= -((m / 2^k+1:Nat):Int))).2 ⟨?_,by omega,by omega⟩).1
 rw[←ao,Int.mul_neg,←Int.natCast_mul,Nat.mul_add,Nat.mul_one]
 omega
theorem aaR (n:Nat) (v:Int):du n (-v)=(-v) / 2^(bc v.natAbs - n)*2^(bc v.natAbs - n):=by
 unfold du;rw[Int.natAbs_neg]
theorem F4 {n:Nat} {E:Int} {d:a3} (ok:d.ok) (l:fw E d) (up:Bool):(fg d n up).V E=gp n up (d.V E):=by
 by_cases h0:d.m=0
 ·have:fg d n up=d:=by unfold fg;rw[if_pos (by rw[h0,j2];omega)]
  rw[this,jd h0]
  unfold gp du
  cases up<;>simp
 ·have le:=l h0
  have bh:=ok.2 h0
  unfold gp
  rw[aaR]
  unfold du
  rw[OB,j3 h0]
  unfold fg
  by_cases ad:(bc d.m:Int) - n≤0
  ·rw[if_pos ad]
   have aC:(2:Int)^(bc d.m+(d.e - E).toNat - n)∣d.V E:=by
    unfold a3.V
    exact Int.dvd_trans (sH (by omega)) (Int.dvd_mul_left _ _)
   rw[Int.ediv_mul_cancel aC,Int.ediv_mul_cancel (Int.dvd_neg.2 aC),Int.neg_neg]
   split<;>rfl
  ·rw[if_neg ad]
   obtain⟨k,bY⟩:∃k:Nat,(bc d.m:Int) - n=k:=⟨bc d.m - n,by omega⟩
   have br:1≤k:=by omega
   rw[bY,oH _ _ (by omega),show (d.e+(k:Int) - E).toNat=k+(d.e - E).toNat by omega,show bc d.m+(d.e - E).toNat - n=k+(d.e - E).toNat by omega,Int.toNat_natCast]
   obtain⟨f1,f2⟩:=abt bh br (d.e - E).toNat
   unfold a3.V
   cases ae3:d.neg with
   |false=>
    have e:dn false d.m=(d.m:Int):=rfl
    rw[Int.neg_mul]at f2
    rw[e,f1,f2]
    cases up
    ·simp[dn]
    ·simp[dn,Int.neg_mul]
   |true=>
    have e:dn true d.m= -(d.m:Int):=rfl
    have f3: -(-(d.m:Int)*2^(d.e - E).toNat)=(d.m:Int)*2^(d.e - E).toNat:=by rw[Int.neg_mul,Int.neg_neg]
    rw[e,f3,f1,f2]
    cases up
    ·simp[dn]
    ·simp[dn,Int.neg_mul]
theorem fw.cut {E:Int} {d:a3} (l:fw E d) (n:Nat) (up:Bool):fw E (fg d n up):=by
 unfold fg
 split
 ·exact l
 ·rename_i ad
  by_cases h0:d.m=0
  ·rw[h0,j2]at ad
   omega
  ·have:=l h0
   exact j9 (lo:=E) (by omega)
theorem Fi (n:Nat):du n 0=0:=by unfold du;simp
theorem acZ (n:Nat):lf n 0:=Int.dvd_zero _
theorem acf {n:Nat} (v:Int):gp n false v≤v:=by unfold gp;rw[if_neg (by decide)];exact F3 n v
theorem Rf {n:Nat} (v:Int):v≤gp n true v:=by
 unfold gp;rw[if_pos rfl]
 have:=F3 n (-v)
 omega
theorem uC (M:Nat):(aX M*aX M=M∧cp M=2*aX M)∨(aX M*aX M<M∧cp M=2*aX M+1):=by
 have:=(jG M).1
 unfold cp
 by_cases h:aX M*aX M<M
 ·exact Or.inr ⟨h,if_pos h⟩
 ·exact Or.inl ⟨by omega,if_neg h⟩
theorem ac0 {n M:Nat} (h:2^(2*n+3)≤M):2^(n+1)≤aX M:=by
 refine Nat.le_of_not_lt fun h1=> ?_
 have h2:=(jG M).2
 have al:(aX M+1)*(aX M+1)≤2^(n+1)*2^(n+1):=Nat.mul_le_mul h1 h1
 rw[←Nat.pow_add]at al
 have aE:2^(n+1+(n+1))<2^(2*n+3):=Nat.pow_lt_pow_right (by decide) (by omega)
 omega
theorem x5 (c u:Int):c*u*(c*u)=c*c*(u*u):=by
 rw[Int.mul_assoc,Int.mul_left_comm u,←Int.mul_assoc c c]
theorem fz {a b:Int} (h0:0≤a) (h:a≤b):a*a≤b*b:=Int.mul_le_mul h h h0 (by omega)
theorem OJ {n p:Nat} {s:Int} (h0:0≤s) (h:lf n s) (aS:¬(2:Int)^p∣s):s<2^(n+p):=by
 have h1:bc s.natAbs - n<p:=Nat.lt_of_not_le fun h2=>aS (Int.dvd_trans (sH h2) h)
 have h2:s.natAbs<2^(n+p):=by rw[←hS];omega
 have al:((2^(n+p):Nat):Int)=2^(n+p):=Int.natCast_pow 2 _
 omega
section
set_option linter.unusedSectionVars false
variable {n p M:Nat} (aH:1≤n) (cj:M=0∨2^(2*n+3)≤M)
include aH cj
theorem F5 (h:M≠0):(2:Int)^(n+2)≤(cp M:Int):=by
 have ar:=ac0 (cj.resolve_left h)
 have al:((2^(n+2):Nat):Int)=2^(n+2):=Int.natCast_pow 2 _
 have aE:2^(n+2)=2*2^(n+1):=by rw[Nat.pow_succ];omega
 rcases uC M with ⟨_,e⟩|⟨_,e⟩<;>omega
theorem Sb (v:Int) (aA:v.natAbs=cp M*2^p):∃c,du n v=c*2*2^p:=by
 by_cases h:M=0
 ·subst h
  have:v=0:=by rw[sy,Nat.zero_mul]at aA;omega
  exact⟨0,by rw[this,Fi];simp⟩
 ·have ar:=F5 aH cj h
  have al:((2^(n+2):Nat):Int)=2^(n+2):=Int.natCast_pow 2 _
  have b5:cp M≠0:=by
   have:=Nat.two_pow_pos (n+2)
   omega
  have aE:n+3≤bc (cp M):=by
   refine Nat.le_of_not_lt fun aI=> ?_
   have:bc (cp M)≤n+2:=by omega
   rw[hS]at this
   omega
  have aI:(2:Int)^(p+1)∣du n v:=by
   unfold du
   rw[aA,j3 b5]
   exact Int.dvd_trans (sH (by omega)) (Int.dvd_mul_left _ _)
  obtain⟨c,ao⟩:=aI
  exact⟨c,by rw[ao,Int.pow_succ,Int.mul_comm,Int.mul_comm (2^p),Int.mul_assoc]⟩
theorem acg:0≤du n (cp M*2^p)∧du n (cp M*2^p)*du n (cp M*2^p)≤4*M*(2^p*2^p)∧∀s,0≤s→lf n s→s*s≤4*M*(2^p*2^p)→s≤du n (cp M*2^p):=by
 have hu:(0:Int)<2^p:=mh p
 have Df:(0:Int)<2^p*2^p:=Int.mul_pos hu hu
 have b5:(0:Int)≤cp M*2^p:=Int.mul_nonneg (by omega) (by omega)
 have h0:0≤du n (cp M*2^p):=FJ aH (acZ n) b5
 refine⟨h0,?_,?_⟩
 ·obtain⟨c,ao⟩:=Sb (p:=p) aH cj (cp M*2^p) (by rw[Int.natAbs_mul,Int.natAbs_pow];rfl)
  have aB:=F3 n (cp M*2^p)
  rw[ao]at aB h0⊢
  have h1:=Int.le_of_mul_le_mul_right aB hu
  have h2:0≤c*2:=by
   exact Int.le_of_mul_le_mul_right (b:=0) (by rw[Int.zero_mul];exact h0) hu
  have al:c≤aX M:=by rcases uC M with ⟨_,e⟩|⟨_,e⟩<;>omega
  rw[x5,x5]
  refine Int.mul_le_mul_of_nonneg_right ?_ (by omega)
  have aE:=fz (by omega) al
  have aI:=(jG M).1
  have aM:((aX M*aX M:Nat):Int)=(aX M:Int)*(aX M:Int):=Int.natCast_mul _ _
  omega
 ·intro s ay ar aZ
  refine FJ aH ar (Int.not_lt.1 fun bp=> ?_)
  by_cases aC:(2:Int)^p∣s
  ·obtain⟨c,rfl⟩:=aC
   rw[Int.mul_comm (2^p) c]at ay aZ bp
   rw[x5]at aZ
   have h1:=Int.le_of_mul_le_mul_right aZ Df
   have h2:=Int.lt_of_mul_lt_mul_right bp (by omega)
   have al:((aX M*aX M:Nat):Int)=(aX M:Int)*(aX M:Int):=Int.natCast_mul _ _
   have aE:=(jG M).2
   have aI:(((aX M+1)*(aX M+1):Nat):Int)=((aX M:Int)+1)*((aX M:Int)+1):=by rw[Int.natCast_mul];rfl
   rcases uC M with ⟨a1,a6⟩|⟨a1,a6⟩
   ·have aM:=fz (a:=2*(aX M:Int)+1) (b:=c) (by omega) (by omega)
    have a4:(2*(aX M:Int)+1)*(2*(aX M:Int)+1)=4*((aX M:Int)*(aX M:Int))+4*(aX M:Int)+1:=by
     simp only[Int.mul_add,Int.add_mul,Int.mul_one,Int.one_mul,Int.mul_assoc,Int.mul_left_comm _ 2]
     omega
    omega
   ·have aM:=fz (a:=2*((aX M:Int)+1)) (b:=c) (by omega) (by omega)
    have a4:(2*((aX M:Int)+1))*(2*((aX M:Int)+1))=4*(((aX M:Int)+1)*((aX M:Int)+1)):=by
     rw[Int.mul_assoc,Int.mul_left_comm _ 2];omega
    omega
  ·by_cases h:M=0
   ·subst h
    rw[sy]at bp
    have:s*s≤0:=by simpa using aZ
    have h2:1*s≤s*s:=Int.mul_le_mul_of_nonneg_right (by omega) ay
    omega
   ·have e1:=F5 aH cj h
    have h1:=OJ ay ar aC
    have h2:(2:Int)^(n+2)*2^p≤cp M*2^p:=Int.mul_le_mul_of_nonneg_right e1 (by omega)
    rw[←Int.pow_add]at h2
    have al:(2:Int)^(n+p)≤2^(n+2+p):=by
     have:=Nat.pow_le_pow_right (show 2>0 by decide) (show n+p≤n+2+p by omega)
     have a1:((2^(n+p):Nat):Int)=2^(n+p):=Int.natCast_pow 2 _
     have a6:((2^(n+2+p):Nat):Int)=2^(n+2+p):=Int.natCast_pow 2 _
     omega
    omega
theorem abu:0≤gp n true (cp M*2^p)∧4*M*(2^p*2^p)≤gp n true (cp M*2^p)*gp n true (cp M*2^p)∧∀s,0≤s→lf n s→4*M*(2^p*2^p)≤s*s→gp n true (cp M*2^p)≤s:=by
 have hu:(0:Int)<2^p:=mh p
 have Df:(0:Int)<2^p*2^p:=Int.mul_pos hu hu
 have b5:(0:Int)≤cp M*2^p:=Int.mul_nonneg (by omega) (by omega)
 have Vp:=Rf (n:=n) (cp M*2^p)
 have h0:0≤gp n true (cp M*2^p):=by omega
 refine⟨h0,?_,?_⟩
 ·obtain⟨c',ct⟩:=Sb (p:=p) aH cj (-(cp M*2^p)) (by rw[Int.natAbs_neg,Int.natAbs_mul,Int.natAbs_pow];rfl)
  have ao:gp n true (cp M*2^p)=(-c')*2*2^p:=by
   unfold gp;rw[if_pos rfl,ct,Int.neg_mul,Int.neg_mul]
  generalize -c'=c at ao
  rw[ao]at Vp h0⊢
  have h1:=Int.le_of_mul_le_mul_right Vp hu
  rw[x5]
  refine Int.mul_le_mul_of_nonneg_right ?_ (by omega)
  rcases uC M with ⟨a1,a6⟩|⟨a1,a6⟩
  ·have al:((aX M*aX M:Nat):Int)=(aX M:Int)*(aX M:Int):=Int.natCast_mul _ _
   have aE:=fz (a:=2*(aX M:Int)) (b:=c*2) (by omega) (by omega)
   have aI:2*(aX M:Int)*(2*(aX M:Int))=4*((aX M:Int)*(aX M:Int)):=by
    rw[Int.mul_assoc,Int.mul_left_comm _ 2];omega
   omega
  ·have al:=(jG M).2
   have aI:(((aX M+1)*(aX M+1):Nat):Int)=((aX M:Int)+1)*((aX M:Int)+1):=by rw[Int.natCast_mul];rfl
   have aE:=fz (a:=2*((aX M:Int)+1)) (b:=c*2) (by omega) (by omega)
   have a4:(2*((aX M:Int)+1))*(2*((aX M:Int)+1))=4*(((aX M:Int)+1)*((aX M:Int)+1)):=by
    rw[Int.mul_assoc,Int.mul_left_comm _ 2];omega
   omega
 ·intro s ay ar aZ
  have key:cp M*2^p≤s:=by
   refine Int.not_lt.1 fun bp=> ?_
   by_cases aC:(2:Int)^p∣s
   ·obtain⟨c,rfl⟩:=aC
    rw[Int.mul_comm (2^p) c]at ay aZ bp
    rw[x5]at aZ
    have h1:=Int.le_of_mul_le_mul_right aZ Df
    have h2:=Int.lt_of_mul_lt_mul_right bp (by omega)
    have eW:0≤c:=by
     exact Int.le_of_mul_le_mul_right (b:=0) (by rw[Int.zero_mul];exact ay) hu
    have al:((aX M*aX M:Nat):Int)=(aX M:Int)*(aX M:Int):=Int.natCast_mul _ _
    rcases uC M with ⟨a1,a6⟩|⟨a1,a6⟩
    ·have aM:=fz (a:=c) (b:=2*(aX M:Int) - 1) eW (by omega)
     have a4:(2*(aX M:Int) - 1)*(2*(aX M:Int) - 1)=4*((aX M:Int)*(aX M:Int)) - 4*(aX M:Int)+1:=by
      simp only[Int.mul_sub,Int.sub_mul,Int.mul_one,Int.one_mul,Int.mul_assoc,Int.mul_left_comm _ 2]
      omega
     omega
    ·have aM:=fz (a:=c) (b:=2*(aX M:Int)) eW (by omega)
     have a4:2*(aX M:Int)*(2*(aX M:Int))=4*((aX M:Int)*(aX M:Int)):=by
      rw[Int.mul_assoc,Int.mul_left_comm _ 2];omega
     omega
   ·by_cases h:M=0
    ·subst h
     rw[sy]at bp
     simp at bp
     omega
    ·have hm:=cj.resolve_left h
     have h1:=OJ ay ar aC
     have h2:=fz ay (Int.le_of_lt h1)
     have al:(2:Int)^(n+p)*2^(n+p)=2^(2*n)*(2^p*2^p):=by
      rw[←Int.pow_add,←Int.pow_add,←Int.pow_add];congr 1;omega
     rw[al]at h2
     have aE:=Int.le_of_mul_le_mul_right (Int.le_trans aZ h2) Df
     have aI:((2^(2*n):Nat):Int)=2^(2*n):=Int.natCast_pow 2 _
     have aM:2^(2*n)<2^(2*n+3):=Nat.pow_lt_pow_right (by decide) (by omega)
     omega
  unfold gp
  rw[if_pos rfl]
  have:=FJ aH ar.neg (show -s≤-(cp M*2^p)by omega)
  omega
end
def q5 (x:a3) (n:Nat):Nat:=x.m*2^(fe x n).toNat
def xG (x:a3) (n:Nat) (E:Int):Nat:=((x.e - fe x n) / 2 - 1 - E).toNat
theorem EC (x:a3) (n:Nat):q5 x n=0∨2^(2*n+3)≤q5 x n:=by
 unfold q5
 by_cases h0:x.m=0
 ·left;rw[h0,Nat.zero_mul]
 ·right
  have ar:=j3 h0 (fe x n).toNat
  have ad:2*(n:Int)+4 - bc x.m≤fe x n:=by unfold fe;omega
  have h1:x.m*2^(fe x n).toNat≠0:=Nat.mul_ne_zero h0 (Nat.ne_of_gt (Nat.two_pow_pos _))
  have:=DM h1
  refine Nat.le_trans (Nat.pow_le_pow_right (by decide) ?_) this
  omega
section
variable {x:a3} {n:Nat} {E:Int} (aH:1≤n) (dQ:E+1≤(x.e - fe x n) / 2)
include dQ
theorem S9:fw E (mk false (cp (x.m*2^(fe x n).toNat)) ((x.e - fe x n) / 2 - 1)):=j9 (lo:=E) (by omega)
theorem PJ (up:Bool):fw E (dD x n up):=(S9 dQ).cut n up
include aH
theorem A5 (up:Bool):(dD x n up).V E=gp n up (cp (q5 x n)*2^xG x n E):=by
 unfold dD
 rw[F4 (lA ..) (S9 dQ),oH _ _ (by omega)]
 rfl
theorem PK (ah:fw (2*E) x) (aS:x.neg=false):x.V (2*E)=4*q5 x n*(2^xG x n E*2^xG x n E):=by
 have h1:=wP x n
 have h2:=(wK (x:=x) (n:=n) (by omega)).1
 unfold a3.V q5 xG
 rw[aS]
 show (x.m:Int)*_=_
 rw[←Int.pow_add,Int.natCast_mul,Int.natCast_pow,←Int.mul_assoc,Int.mul_comm 4,Int.mul_assoc,Int.mul_assoc,show (4:Int)=2^2 by rfl]
 congr 1
 show (2:Int)^_=((2:Nat):Int)^_*_
 rw[show ((2:Nat):Int)=2 from rfl,←Int.pow_add,←Int.pow_add]
 congr 1
 omega
theorem abv (ah:fw (2*E) x) (aS:x.neg=false):
 (0≤(dD x n false).V E∧(dD x n false).V E*(dD x n false).V E≤x.V (2*E)∧∀s,0≤s→lf n s→s*s≤x.V (2*E)→s≤(dD x n false).V E)∧
 (0≤(dD x n true).V E∧x.V (2*E)≤(dD x n true).V E*(dD x n true).V E∧∀s,0≤s→lf n s→x.V (2*E)≤s*s→(dD x n true).V E≤s):=by
 rw[A5 aH dQ,A5 aH dQ,PK aH dQ ah aS]
 exact⟨acg aH (EC x n),abu aH (EC x n)⟩
end
theorem PL {lo hi lo' hi':Int} {x:a3} {n:Int} (h:x.win lo hi) (aH:0≤n) (l:2*lo'≤lo - 2*n - 8) (k:hi+6≤2*hi') (up:Bool):(dD x n up).win lo' hi':=by
 unfold dD
 have:hi'=(hi' - 1)+1:=by omega
 rw[this]
 refine ET (hi:=hi' - 1) (qZ fun b5=> ?_) n (by omega) up
 have h0:x.m≠0:=fun e=>b5 (by rw[e,Nat.zero_mul,sy])
 have hw:=h.2 h0
 have ad:=wK (x:=x) (n:=n) (by omega)
 have he:=wP x n
 have ar:=zY (x.m*2^(fe x n).toNat)
 rw[j3 h0]at ar
 omega
theorem Rg {lo hi:Int} :(⟨⟨false,0,0⟩,⟨false,0,0⟩⟩:bD).win lo hi:=by
 have:(⟨false,0,0⟩:a3).win lo hi:=⟨⟨fun _=>⟨rfl,rfl⟩,fun h=>absurd rfl h⟩,fun h=>absurd rfl h⟩
 exact⟨this,this⟩
theorem Fj {lo hi lo' hi':Int} {x:bD} {n:Int} (h:x.win lo hi) (aH:0≤n) (l:2*lo'≤lo - 2*n - 9) (k:hi+5≤2*hi'):(fl x n).win lo' hi':=by
 unfold fl
 split
 ·exact Rg
 ·have s:=EY h (-1)
  exact⟨PL s.1 aH (by omega) (by omega) _,PL s.2 aH (by omega) (by omega) _⟩
def i1:bD:=⟨d1,d1⟩
theorem vw {lo hi:Int} (l:lo≤0) (k:1≤hi):i1.win lo hi:=by
 have:d1.win lo hi:=Rd (e:=0) l (by omega)
 exact⟨this,this⟩
def aA (w:Int):Nat→db
 |0=>⟨fl i1 w,fl i1 w⟩
 |k+1=>⟨fl (dB i1 (aA w k).c) w,fl (dB i1 (cZ (aA w k).c)) w⟩
theorem rq {w:Int} (hw:0≤w):∀k,(aA w k).win (-(2*w+16)) 8
 |0=>by
  have:(fl i1 w).win (-(2*w+16)) 8:=Fj (vw (lo:=0) (hi:=1) (by omega) (by omega)) hw (by omega) (by omega)
  exact⟨this,this⟩
 |k+1=>by
  have h:=(rq hw k).1
  have o:i1.win (-(2*w+16)) 8:=vw (by omega) (by omega)
  exact⟨Fj (mq o h) hw (by omega) (by omega),Fj (mq o (ll h)) hw (by omega) (by omega)⟩
def k7 (K Q w:Int):Nat→Nat→db→db
 |0,_,p=>p
 |k+1,q,p=>k7 K Q w k (q+1) (if (K.toNat / 2^(Q.toNat - q)) % 2=1 then mw p (aA w (q - 3)) w else p)
def p0:db:=⟨i1,⟨⟨false,0,0⟩,⟨false,0,0⟩⟩⟩
theorem oD {lo hi lo' hi':Int} {x:db} (h:x.win lo hi) (l:lo'≤lo) (k:hi≤hi'):x.win lo' hi':=⟨ff h.1 l k,ff h.2 l k⟩
theorem Sc {K Q w:Int} (hw:0≤w):∀(k q:Nat) {p:db} {lo hi:Int},p.win lo hi→(k7 K Q w k q p).win (lo - k*(2*w+16)) (hi+10*k)
 |0,_,_,_,_,h=>oD h (by omega) (by omega)
 |k+1,q,p,lo,hi,h=>by
  unfold k7
  have e:lo - ((k+1:Nat):Int)*(2*w+16)=lo+ -(2*w+16) - k*(2*w+16):=by
   rw[Int.natCast_add,Int.add_mul];omega
  rw[e]
  refine oD (Sc hw k (q+1) (lo:=lo+ -(2*w+16)) (hi:=hi+8+2) ?_) (Int.le_refl _) (by omega)
  split
  ·exact Fh h (rq hw _) hw
  ·exact oD h (by omega) (by omega)
theorem HL {lo hi:Int} (l:lo≤0) (k:1≤hi):p0.win lo hi:=⟨vw l k,Rg⟩
def rest (K Q w:Int):db:=k7 K Q w (Q - 2).toNat 3 p0
def dt (a:Nat) (w:Int):db:=
 let r:=rest (b6 (cg a)) (a5 (cg a)) w
 let e:=b7 a
 let r:=if e=1∨e=2∨e=5∨e=6 then ⟨r.s,r.c⟩else r
 let r:=if 2≤e∧e≤5 then ⟨cZ r.c,r.s⟩else r
 if 4≤e then ⟨r.c,cZ r.s⟩else r
theorem FK {K Q w:Int} (h0:Q≤14) (hw:0≤w) (g9:w≤800):(rest K Q w).win (-20000) 200:=by
 unfold rest
 have h:=Sc (K:=K) (Q:=Q) hw (Q - 2).toNat 3 (HL (lo:=0) (hi:=1) (by omega) (by omega))
 have h1:((Q - 2).toNat:Int)*(2*w+16)≤12*(2*w+16):=Int.mul_le_mul_of_nonneg_right (by omega) (by omega)
 exact oD h (by omega) (by omega)
theorem ou {Γ:Env} {c:au} {Q:eg→St→Prop} {σ:St} (K:St→Prop) (h:bZ Γ c (fun e s=>match e with| .normal=>K s|_=>False) σ) (ar:∀s,K s→Q .normal s):bZ Γ c Q σ:=
 h8 c (fun e s ay=>by
  cases e with
  |normal=>exact ar s ay
  |exit j=>exact ay.elim
  |ret=>exact ay.elim) h
def tp:bq where
 pre:=fun ds=>∃(a:Nat) (w:Int),ds=[jB a,.int .i64 w]∧a≤144115188075855872∧a5 a≤14∧0≤w∧w≤800
 res:=fun ds=>match ds with
  |[.agg [.int _ K,.int _ Q],.int _ w]=>dp (rest K Q w)
  |_=> .nilp
def pY:bq where
 pre:=fun ds=>∃(K:Int) (Q:Nat) (w:Int),ds=[cl K Q,.int .i64 w]∧Q≤60∧a5 (cg (an K Q))≤14∧0≤w∧w≤800
 res:=fun ds=>match ds with
  |[.agg [.int _ K,.int _ Q],.int _ w]=>dp (dt (an K Q.toNat) w)
  |_=> .nilp
def gq (k:Nat) (p:db) (s:St):Prop:=s.af k= .box k 0∧s.aw k=some ⟨false,false,.cells [.d (.bool p.c.lo.neg),.d (.ints .i64 (ai p.c.lo.m)),.d (.int .i64 p.c.lo.e),.d (.bool p.c.hi.neg),.d (.ints .i64 (ai p.c.hi.m)),.d (.int .i64 p.c.hi.e),.d (.bool p.s.lo.neg),.d (.ints .i64 (ai p.s.lo.m)),.d (.int .i64 p.s.lo.e),.d (.bool p.s.hi.neg),.d (.ints .i64 (ai p.s.hi.m)),.d (.int .i64 p.s.hi.e)]⟩
def gx (s:St):Prop:=s.af 4= .box 4 0∧s.aw 4=some ⟨false,false,.cells [.d (.bool false),.d (.ints .i64 []),.d (.int .i64 0),.d (.bool false),.d (.ints .i64 []),.d (.int .i64 0),.d (.bool false),.d (.ints .i64 []),.d (.int .i64 0),.d (.bool false),.d (.ints .i64 []),.d (.int .i64 0)]⟩
theorem afY (Γ:Env) (afZ:Γ.has 134 pS) (af0:Γ.has 135 tp) (af1:Γ.has 136 pT) (vW:Γ.has 27 jw) (ds:List D) (h:pY.pre ds):bH Γ GC GD ds fun d=>d=pY.res ds:=by
 obtain⟨K,Q,w,rfl,cn,aZ,eA,g9⟩:=h
 have cq:pY.res [cl K Q,.int .i64 w]=dp (dt (an K Q) w):=by simp only[pY,cl,Int.toNat_natCast]
 rw[cq]
 obtain⟨a,a2⟩:∃a,a=an K Q:=⟨_,rfl⟩
 have ck:a<1152921504606846976:=a2▸ig K Q
 have p1:pS.pre [.agg [.int .i64 K,.int .i64 Q]]:=⟨K,Q,rfl,cn⟩
 have bP:pS.res [.agg [.int .i64 K,.int .i64 Q]]= .agg [.int .i64 (b7 a),.int .i64 (b6 (cg a)),.int .i64 (a5 (cg a))]:=by simp only[pS,Int.toNat_natCast,←a2];rfl
 rw[←a2]at aZ⊢
 have cS:tp.pre [.agg [.int .i64 (b6 (cg a)),.int .i64 (a5 (cg a))],.int .i64 w]:=⟨cg a,w,rfl,u9 a,aZ,eA,g9⟩
 have ca:tp.res [.agg [.int .i64 (b6 (cg a)),.int .i64 (a5 (cg a))],.int .i64 w]=dp (rest (b6 (cg a)) (a5 (cg a)) w):=rfl
 have aq:=FK (K:=b6 (cg a)) (Q:=a5 (cg a)) (by omega) eA g9
 unfold dt
 obtain⟨r,wy⟩:∃r,r=rest (b6 (cg a)) (a5 (cg a)) w:=⟨_,rfl⟩
 rw[←wy]at ca aq⊢
 have dQ:=s0 ck
 obtain⟨e,he⟩:∃e,e=b7 a:=⟨_,rfl⟩
 rw[←he]at bP dQ⊢
 obtain⟨cf,e1⟩:∃b,b=decide ((e:Int)=1∨(e:Int)=2∨(e:Int)=5∨(e:Int)=6):=⟨_,rfl⟩
 obtain⟨aY,lT⟩:∃b,b=decide (2≤(e:Int)∧(e:Int)≤5):=⟨_,rfl⟩
 obtain⟨aW,tZ⟩:∃b,b=decide (4≤(e:Int)):=⟨_,rfl⟩
 have g2:pT.pre [.int .i64 e]:=⟨e,rfl,by omega,by omega⟩
 have g1:pT.res [.int .i64 e]= .ep [.bool cf,.bool aY,.bool aW]:=by rw[e1,lT,tZ];rfl
 have bB:(e=1∨e=2∨e=5∨e=6)↔cf=true:=by rw[e1,decide_eq_true_iff];omega
 have cu:(2≤e∧e≤5)↔aY=true:=by rw[lT,decide_eq_true_iff];omega
 have eU:(4≤e)↔aW=true:=by rw[tZ,decide_eq_true_iff];omega
 simp only[bB,cu,eU]
 clear bB cu eU e1 lT tZ
 obtain⟨u,hu⟩:∃u:db,u=if cf=true then ⟨r.s,r.c⟩else r:=⟨_,rfl⟩
 have m9:u.win (-20000) 200:=by rw[hu];split;exact⟨aq.2,aq.1⟩;exact aq
 obtain⟨v,aA⟩:∃v:db,v=if aY=true then ⟨cZ u.c,u.s⟩else u:=⟨_,rfl⟩
 have Y0:v.win (-20000) 200:=by rw[aA];split;exact⟨ll m9.1,m9.2⟩;exact m9
 rw[←hu,←aA]
 unfold dp a7 at ca
 rw[fP]
 unfold GC GD
 refine bX (fun s=>s.af 1= .d (.int .i64 w)∧s.af 2= .box 2 0∧s.aw 2=some ⟨false,false,.cells [.d (.int .i64 K),.d (.int .i64 Q)]⟩∧gx s) ?_ ?_
 ·simp (maxSteps:=2000000) only[↓ak,aj,↓reduceIte,reduceCtorEq,Nat.reduceEqDiff,Nat.reduceLeDiff,Nat.reduceSub,Nat.reduceAdd,Int.reduceToNat,Nat.reducePow,Int.reducePow,Int.reduceLE,Int.reduceLT,IntKind.bits,cl,gx]
 rintro s ⟨h1,h2,cu,aE,aU⟩
 refine bX (fun s=>s.af 1= .d (.int .i64 w)∧s.af 5= .box 5 0∧s.aw 5=some ⟨false,false,.cells [.d (.int .i64 e),.d (.int .i64 (b6 (cg a))),.d (.int .i64 (a5 (cg a)))]⟩∧gx s) ?_ ?_
 ·simp (maxSteps:=2000000) only[↓ak,aj,↓reduceIte,reduceCtorEq,Nat.reduceEqDiff,Nat.reduceLeDiff,Nat.reduceSub,Nat.reduceAdd,Int.reduceToNat,Nat.reducePow,Int.reducePow,Int.reduceLE,Int.reduceLT,IntKind.bits,h1,h2,cu,aE,aU,gx,afZ,p1,bP]
 rintro s ⟨h1,aI,a9,aE,aU⟩
 refine bX (fun s=>s.af 5= .box 5 0∧s.aw 5=some ⟨false,false,.cells [.d (.int .i64 e),.d (.int .i64 (b6 (cg a))),.d (.int .i64 (a5 (cg a)))]⟩∧gx s∧gq 6 r s) ?_ ?_
 ·simp (maxSteps:=2000000) only[↓ak,aj,↓reduceIte,reduceCtorEq,Nat.reduceEqDiff,Nat.reduceLeDiff,Nat.reduceSub,Nat.reduceAdd,Int.reduceToNat,Nat.reducePow,Int.reducePow,Int.reduceLE,Int.reduceLT,IntKind.bits,h1,aI,a9,aE,aU,gx,gq,af0,cS,ca]
 rintro s ⟨aI,a9,⟨aE,aU⟩,aM,a0⟩
 refine bX (fun s=>s.af 7= .d (.bool cf)∧s.af 8= .d (.bool aY)∧s.af 9= .d (.bool aW)∧gx s∧gq 6 r s) ?_ ?_
 ·simp (maxSteps:=2000000) only[↓ak,aj,↓reduceIte,reduceCtorEq,Nat.reduceEqDiff,Nat.reduceLeDiff,Nat.reduceSub,Nat.reduceAdd,Int.reduceToNat,Nat.reducePow,Int.reducePow,Int.reduceLE,Int.reduceLT,IntKind.bits,aI,a9,aE,aU,aM,a0,gx,gq,af1,g2,g1]
 rintro s ⟨a4,bz,bM,⟨aE,aU⟩,aM,a0⟩
 refine bX (fun s=>s.af 8= .d (.bool aY)∧s.af 9= .d (.bool aW)∧gx s∧gq 6 u s) ?_ ?_
 ·rw[hu]
  cases cf<;>simp (maxSteps:=2000000) only[↓ak,aj,↓reduceIte,reduceCtorEq,Nat.reduceEqDiff,Nat.reduceLeDiff,Nat.reduceSub,Nat.reduceAdd,Int.reduceToNat,Nat.reducePow,Int.reducePow,Int.reduceLE,Int.reduceLT,IntKind.bits,a4,bz,bM,aE,aU,aM,a0,gx,gq,Bool.false_eq_true]
 rintro s ⟨bz,bM,⟨aE,aU⟩,aM,a0⟩
 refine bX (fun s=>s.af 9= .d (.bool aW)∧gx s∧gq 6 v s) ?_ ?_
 ·rw[aA]
  have iX:jw.pre [.agg [.bool u.c.lo.neg,.ints .i64 (ai u.c.lo.m),.int .i64 u.c.lo.e,.bool u.c.hi.neg,.ints .i64 (ai u.c.hi.m),.int .i64 u.c.hi.e]]:=⟨u.c,rfl,ff m9.1 (by omega) (by omega)⟩
  have hh:jw.res [.agg [.bool u.c.lo.neg,.ints .i64 (ai u.c.lo.m),.int .i64 u.c.lo.e,.bool u.c.hi.neg,.ints .i64 (ai u.c.hi.m),.int .i64 u.c.hi.e]]=aQ (cZ u.c):=by simp only[jw,dw]
  unfold aQ a7 at hh
  cases aY<;>simp (maxSteps:=2000000) only[↓ak,aj,↓reduceIte,reduceCtorEq,Nat.reduceEqDiff,Nat.reduceLeDiff,Nat.reduceSub,Nat.reduceAdd,Int.reduceToNat,Nat.reducePow,Int.reducePow,Int.reduceLE,Int.reduceLT,IntKind.bits,bz,bM,aE,aU,aM,a0,gx,gq,vW,iX,hh,Bool.false_eq_true]
 rintro s ⟨bM,⟨aE,aU⟩,aM,a0⟩
 refine bX (fun s=>gx s∧gq 6 (if aW=true then ⟨v.c,cZ v.s⟩else v) s) ?_ ?_
 ·have iX:jw.pre [.agg [.bool v.s.lo.neg,.ints .i64 (ai v.s.lo.m),.int .i64 v.s.lo.e,.bool v.s.hi.neg,.ints .i64 (ai v.s.hi.m),.int .i64 v.s.hi.e]]:=⟨v.s,rfl,ff Y0.2 (by omega) (by omega)⟩
  have hh:jw.res [.agg [.bool v.s.lo.neg,.ints .i64 (ai v.s.lo.m),.int .i64 v.s.lo.e,.bool v.s.hi.neg,.ints .i64 (ai v.s.hi.m),.int .i64 v.s.hi.e]]=aQ (cZ v.s):=by simp only[jw,dw]
  unfold aQ a7 at hh
  cases aW<;>simp (maxSteps:=2000000) only[↓ak,aj,↓reduceIte,reduceCtorEq,Nat.reduceEqDiff,Nat.reduceLeDiff,Nat.reduceSub,Nat.reduceAdd,Int.reduceToNat,Nat.reducePow,Int.reducePow,Int.reduceLE,Int.reduceLT,IntKind.bits,bM,aE,aU,aM,a0,gx,gq,vW,iX,hh,Bool.false_eq_true]
 generalize (if aW=true then (⟨v.c,cZ v.s⟩:db)else v)=z
 rintro s ⟨⟨aE,aU⟩,aM,a0⟩
 simp (maxSteps:=2000000) only[↓ak,aj,↓reduceIte,reduceCtorEq,Nat.reduceEqDiff,Nat.reduceLeDiff,Nat.reduceSub,Nat.reduceAdd,Int.reduceToNat,Nat.reducePow,Int.reducePow,Int.reduceLE,Int.reduceLT,IntKind.bits,aE,aU,aM,a0,dp,a7]
def kz (p:db):List D:=[.bool p.c.lo.neg,a7 p.c.lo.m,.int .i64 p.c.lo.e,.bool p.c.hi.neg,a7 p.c.hi.m,.int .i64 p.c.hi.e,.bool p.s.lo.neg,a7 p.s.lo.m,.int .i64 p.s.lo.e,.bool p.s.hi.neg,a7 p.s.hi.m,.int .i64 p.s.hi.e]
def ql (w:Int) (n:Nat):D:= .recs 12 ((List.range n).map fun k=>kz (aA w k))
def ix (p:db):D:= .ep [aQ p.c,aQ p.s]
def tq:bq where
 pre:=fun ds=>∃(a:Nat) (w:Int) (n:Nat),ds=[jB a,.int .i64 w,ql w n]∧a≤144115188075855872∧a5 a≤14∧a5 a≤n+2∧0≤w∧w≤800
 res:=fun ds=>match ds with
  |[.agg [.int _ K,.int _ Q],.int _ w,_]=>ix (rest K Q w)
  |_=> .nilp
def pZ:bq where
 pre:=fun ds=>∃(K:Int) (Q:Nat) (w:Int) (n:Nat),ds=[cl K Q,.int .i64 w,ql w n]∧Q≤60∧aG K∧a5 (cg (an K Q))≤14∧a5 (cg (an K Q))≤n+2∧0≤w∧w≤800
 res:=fun ds=>match ds with
  |[.agg [.int _ K,.int _ Q],.int _ w,_]=>ix (dt (an K Q.toNat) w)
  |_=> .nilp
def b8 (k:Nat) (x:bD) (s:St):Prop:=s.af k= .box k 0∧s.aw k=some ⟨false,false,.cells [.d (.bool x.lo.neg),.d (.ints .i64 (ai x.lo.m)),.d (.int .i64 x.lo.e),.d (.bool x.hi.neg),.d (.ints .i64 (ai x.hi.m)),.d (.int .i64 x.hi.e)]⟩
def cr (k:Nat) (s:St):Prop:=s.af k= .box k 0∧s.aw k=some ⟨false,false,.cells [.d (.bool false),.d (.ints .i64 []),.d (.int .i64 0),.d (.bool false),.d (.ints .i64 []),.d (.int .i64 0)]⟩
theorem af2 (Γ:Env) (af3:Γ.has 137 pV) (af4:Γ.has 138 tq) (af5:Γ.has 139 tn) (vY:Γ.has 28 iw) (ds:List D) (h:pZ.pre ds):bH Γ GF GG ds fun d=>d=pZ.res ds:=by
 obtain⟨K,Q,w,n,rfl,cn,bV,aZ,tH,eA,g9⟩:=h
 have cq:pZ.res [cl K Q,.int .i64 w,ql w n]=ix (dt (an K Q) w):=by simp only[pZ,cl,Int.toNat_natCast]
 rw[cq]
 obtain⟨a,a2⟩:∃a,a=an K Q:=⟨_,rfl⟩
 have ck:a<1152921504606846976:=a2▸ig K Q
 have p1:pV.pre [.agg [.int .i64 K,.int .i64 Q]]:=⟨K,Q,rfl,cn,bV⟩
 have bP:pV.res [.agg [.int .i64 K,.int .i64 Q]]= .agg [.int .i64 (b7 a),.int .i64 (b6 (cg a)),.int .i64 (a5 (cg a))]:=by simp only[pV,Int.toNat_natCast,←a2];rfl
 rw[←a2]at aZ tH⊢
 obtain⟨L,gu⟩:∃L,L=(List.range n).map fun k=>kz (aA w k):=⟨_,rfl⟩
 have Lo:ql w n= .recs 12 L:=by rw[gu];rfl
 have cS:tq.pre [.agg [.int .i64 (b6 (cg a)),.int .i64 (a5 (cg a))],.int .i64 w,ql w n]:=⟨cg a,w,n,rfl,u9 a,aZ,tH,eA,g9⟩
 have ca:tq.res [.agg [.int .i64 (b6 (cg a)),.int .i64 (a5 (cg a))],.int .i64 w,ql w n]=ix (rest (b6 (cg a)) (a5 (cg a)) w):=rfl
 rw[Lo]at cS ca⊢
 have aq:=FK (K:=b6 (cg a)) (Q:=a5 (cg a)) (by omega) eA g9
 unfold dt
 obtain⟨r,wy⟩:∃r,r=rest (b6 (cg a)) (a5 (cg a)) w:=⟨_,rfl⟩
 rw[←wy]at ca aq⊢
 have dQ:=s0 ck
 obtain⟨e,he⟩:∃e,e=b7 a:=⟨_,rfl⟩
 rw[←he]at bP dQ⊢
 obtain⟨cf,e1⟩:∃b,b=decide ((e:Int)=1∨(e:Int)=2∨(e:Int)=5∨(e:Int)=6):=⟨_,rfl⟩
 obtain⟨aY,lT⟩:∃b,b=decide (2≤(e:Int)∧(e:Int)≤5):=⟨_,rfl⟩
 obtain⟨aW,tZ⟩:∃b,b=decide (4≤(e:Int)):=⟨_,rfl⟩
 have g2:tn.pre [.int .i64 e]:=⟨e,rfl,by omega,by omega⟩
 have g1:tn.res [.int .i64 e]= .ep [.bool cf,.bool aY,.bool aW]:=by rw[e1,lT,tZ];rfl
 have bB:(e=1∨e=2∨e=5∨e=6)↔cf=true:=by rw[e1,decide_eq_true_iff];omega
 have cu:(2≤e∧e≤5)↔aY=true:=by rw[lT,decide_eq_true_iff];omega
 have eU:(4≤e)↔aW=true:=by rw[tZ,decide_eq_true_iff];omega
 simp only[bB,cu,eU]
 clear bB cu eU e1 lT tZ
 obtain⟨u,hu⟩:∃u:db,u=if cf=true then ⟨r.s,r.c⟩else r:=⟨_,rfl⟩
 have m9:u.win (-20000) 200:=by rw[hu];split;exact⟨aq.2,aq.1⟩;exact aq
 obtain⟨v,aA⟩:∃v:db,v=if aY=true then ⟨cZ u.c,u.s⟩else u:=⟨_,rfl⟩
 have Y0:v.win (-20000) 200:=by rw[aA];split;exact⟨ll m9.1,m9.2⟩;exact m9
 rw[←hu,←aA]
 unfold ix aQ a7 at ca
 rw[fP]
 unfold GF GG
 refine bX (fun s=>s.af 1= .d (.int .i64 w)∧s.af 2= .d (.recs 12 L)∧s.af 3= .box 3 0∧s.aw 3=some ⟨false,false,.cells [.d (.int .i64 K),.d (.int .i64 Q)]⟩∧cr 6 s∧cr 7 s) ?_ ?_
 ·simp (maxSteps:=2000000) only[↓ak,aj,↓reduceIte,reduceCtorEq,Nat.reduceEqDiff,Nat.reduceLeDiff,Nat.reduceSub,Nat.reduceAdd,Int.reduceToNat,Nat.reducePow,Int.reducePow,Int.reduceLE,Int.reduceLT,IntKind.bits,cl,cr]
 rintro s ⟨h1,h2,al,eU,⟨aM,a0⟩,a4,cz⟩
 refine bX (fun s=>s.af 1= .d (.int .i64 w)∧s.af 2= .d (.recs 12 L)∧s.af 8= .box 8 0∧s.aw 8=some ⟨false,false,.cells [.d (.int .i64 e),.d (.int .i64 (b6 (cg a))),.d (.int .i64 (a5 (cg a)))]⟩∧cr 6 s∧cr 7 s) ?_ ?_
 ·simp (maxSteps:=2000000) only[↓ak,aj,↓reduceIte,reduceCtorEq,Nat.reduceEqDiff,Nat.reduceLeDiff,Nat.reduceSub,Nat.reduceAdd,Int.reduceToNat,Nat.reducePow,Int.reducePow,Int.reduceLE,Int.reduceLT,IntKind.bits,h1,h2,al,eU,aM,a0,a4,cz,cr,af3,p1,bP]
 rintro s ⟨h1,h2,bz,b3,⟨aM,a0⟩,a4,cz⟩
 refine bX (fun s=>s.af 8= .box 8 0∧s.aw 8=some ⟨false,false,.cells [.d (.int .i64 e),.d (.int .i64 (b6 (cg a))),.d (.int .i64 (a5 (cg a)))]⟩∧b8 9 r.c s∧b8 10 r.s s∧cr 6 s∧cr 7 s) ?_ ?_
 ·simp (maxSteps:=2000000) only[↓ak,aj,↓reduceIte,reduceCtorEq,Nat.reduceEqDiff,Nat.reduceLeDiff,Nat.reduceSub,Nat.reduceAdd,Int.reduceToNat,Nat.reducePow,Int.reducePow,Int.reduceLE,Int.reduceLT,IntKind.bits,h1,h2,bz,b3,aM,a0,a4,cz,b8,cr,af4,cS,ca]
 rintro s ⟨bz,b3,⟨bM,cI⟩,⟨hA,qC⟩,⟨aM,a0⟩,a4,cz⟩
 refine bX (fun s=>s.af 11= .d (.bool cf)∧s.af 12= .d (.bool aY)∧s.af 13= .d (.bool aW)∧b8 9 r.c s∧b8 10 r.s s∧cr 6 s∧cr 7 s) ?_ ?_
 ·simp (maxSteps:=2000000) only[↓ak,aj,↓reduceIte,reduceCtorEq,Nat.reduceEqDiff,Nat.reduceLeDiff,Nat.reduceSub,Nat.reduceAdd,Int.reduceToNat,Nat.reducePow,Int.reducePow,Int.reduceLE,Int.reduceLT,IntKind.bits,bz,b3,bM,cI,hA,qC,aM,a0,a4,cz,b8,cr,af5,g2,g1]
 rintro s ⟨aN,fE,ky,⟨bM,cI⟩,⟨hA,qC⟩,⟨aM,a0⟩,a4,cz⟩
 refine bX (fun s=>s.af 12= .d (.bool aY)∧s.af 13= .d (.bool aW)∧b8 9 u.c s∧b8 10 u.s s∧cr 6 s∧cr 7 s) ?_ ?_
 ·rw[hu]
  cases cf<;>simp (maxSteps:=2000000) only[↓ak,aj,↓reduceIte,reduceCtorEq,Nat.reduceEqDiff,Nat.reduceLeDiff,Nat.reduceSub,Nat.reduceAdd,Int.reduceToNat,Nat.reducePow,Int.reducePow,Int.reduceLE,Int.reduceLT,IntKind.bits,aN,fE,ky,bM,cI,hA,qC,aM,a0,a4,cz,b8,cr,Bool.false_eq_true]
 rintro s ⟨fE,ky,⟨bM,cI⟩,⟨hA,qC⟩,⟨aM,a0⟩,a4,cz⟩
 refine bX (fun s=>s.af 13= .d (.bool aW)∧b8 9 v.c s∧b8 10 v.s s∧cr 6 s∧cr 7 s) ?_ ?_
 ·rw[aA]
  have iX:iw.pre [.agg [.bool u.c.lo.neg,.ints .i64 (ai u.c.lo.m),.int .i64 u.c.lo.e,.bool u.c.hi.neg,.ints .i64 (ai u.c.hi.m),.int .i64 u.c.hi.e]]:=⟨u.c,rfl⟩
  have hh:iw.res [.agg [.bool u.c.lo.neg,.ints .i64 (ai u.c.lo.m),.int .i64 u.c.lo.e,.bool u.c.hi.neg,.ints .i64 (ai u.c.hi.m),.int .i64 u.c.hi.e]]=aQ (cZ u.c):=by simp only[iw,dw]
  unfold aQ a7 at hh
  cases aY<;>simp (maxSteps:=2000000) only[↓ak,aj,↓reduceIte,reduceCtorEq,Nat.reduceEqDiff,Nat.reduceLeDiff,Nat.reduceSub,Nat.reduceAdd,Int.reduceToNat,Nat.reducePow,Int.reducePow,Int.reduceLE,Int.reduceLT,IntKind.bits,fE,ky,bM,cI,hA,qC,aM,a0,a4,cz,b8,cr,vY,iX,hh,Bool.false_eq_true]
 rintro s ⟨ky,⟨bM,cI⟩,⟨hA,qC⟩,⟨aM,a0⟩,a4,cz⟩
 refine bX (fun s=>b8 9 (if aW=true then (⟨v.c,cZ v.s⟩:db)else v).c s∧b8 10 (if aW=true then (⟨v.c,cZ v.s⟩:db)else v).s s∧cr 6 s∧cr 7 s) ?_ ?_
 ·have iX:iw.pre [.agg [.bool v.s.lo.neg,.ints .i64 (ai v.s.lo.m),.int .i64 v.s.lo.e,.bool v.s.hi.neg,.ints .i64 (ai v.s.hi.m),.int .i64 v.s.hi.e]]:=⟨v.s,rfl⟩
  have hh:iw.res [.agg [.bool v.s.lo.neg,.ints .i64 (ai v.s.lo.m),.int .i64 v.s.lo.e,.bool v.s.hi.neg,.ints .i64 (ai v.s.hi.m),.int .i64 v.s.hi.e]]=aQ (cZ v.s):=by simp only[iw,dw]
  unfold aQ a7 at hh
  cases aW<;>simp (maxSteps:=2000000) only[↓ak,aj,↓reduceIte,reduceCtorEq,Nat.reduceEqDiff,Nat.reduceLeDiff,Nat.reduceSub,Nat.reduceAdd,Int.reduceToNat,Nat.reducePow,Int.reducePow,Int.reduceLE,Int.reduceLT,IntKind.bits,ky,bM,cI,hA,qC,aM,a0,a4,cz,b8,cr,vY,iX,hh,Bool.false_eq_true]
 generalize (if aW=true then (⟨v.c,cZ v.s⟩:db)else v)=z
 rintro s ⟨⟨bM,cI⟩,⟨hA,qC⟩,⟨aM,a0⟩,a4,cz⟩
 simp (maxSteps:=2000000) only[↓ak,aj,↓reduceIte,reduceCtorEq,Nat.reduceEqDiff,Nat.reduceLeDiff,Nat.reduceSub,Nat.reduceAdd,Int.reduceToNat,Nat.reducePow,Int.reducePow,Int.reduceLE,Int.reduceLT,IntKind.bits,bM,cI,hA,qC,aM,a0,a4,cz,ix,aQ,a7]
 exact⟨by decide,by decide⟩
def tr:bq where
 pre:=fun ds=>∃w:Int,ds=[.int .i64 w]
 res:=fun ds=>match ds with
  |[w]=> .fn 155 [] [.ptr [w]]
  |_=> .nilp
theorem af6 (Γ:Env) (ds:List D) (h:tr.pre ds):bH Γ Hy Hz ds fun d=>d=tr.res ds:=by
 obtain⟨w,rfl⟩:=h
 simp (maxSteps:=2000000) only[↓ak,aj,↓reduceIte,reduceCtorEq,Nat.reduceEqDiff,Nat.reduceLeDiff,Nat.reduceSub,Nat.reduceAdd,Int.reduceToNat,Nat.reducePow,Int.reducePow,Int.reduceLE,Int.reduceLT,IntKind.bits,Hy,Hz,tr]
def ts:kx where
 pre:=fun ds=>∃w:Int,ds=[.ptr [.int .i64 w]]∧0≤w∧w≤800
 seq:=fun ds k=>match ds with
  |[.ptr [.int _ w]]=>some [dp (aA w k)]
  |_=>none
end RV.Dr
