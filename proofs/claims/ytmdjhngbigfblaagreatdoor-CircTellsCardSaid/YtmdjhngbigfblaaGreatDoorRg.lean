/- Lemmas for a claim: an abstract machine for the translated code, proved sound, and contracts of functions. By an AI agent. -/
import Derived.Test.YtmdjhngbigfblaaGreatDoorRf
import Derived.Test.YtmdjhngbigfblaaGreatDoorChecked
import Derived.WalkKit
import Derived.ProofKit
import Derived.Test.YtmdjhngbigfblaaGreatDoorRc
set_option linter.all false
namespace RV.Dr
open Go RV
set_option linter.unusedSimpArgs false
set_option linter.unusedVariables false
set_option maxRecDepth 100000
set_option maxHeartbeats 4000000
def pQ:bq where
 pre:=fun ds=>∃a:Nat,ds=[a7 a]∧(ai a).length≤20000
 res:=fun ds=>match ds with
  |[.ints _ xs]=>a7 (aX (val xs))
  |_=> .nilp
theorem afr (Γ:Env) (f117:Γ.fn 117=some kd) (oI:Γ.mt 117=none) (f99:Γ.fn 99=some jQ) (tO:Γ.mt 99=none) (SV:Γ.mt 129=some rk) (SW:Γ.mt 130=some pP)
 (ds:List D) (h:pQ.pre ds):bH Γ Gn Gp ds fun d=>d=pQ.res ds:=by
 obtain⟨a,rfl,hlen⟩:=h
 obtain⟨n,aH⟩:∃n:Nat,n=(ai a).length / 2+2:=⟨_,rfl⟩
 have d1:((ai a).length:Int).tdiv 2+2=(n:Int):=by
  rw[Int.tdiv_eq_ediv_of_nonneg (by omega)];omega
 have Kg:((ai a).length:Int).tdiv 2=((ai a).length:Int) / 2:=Int.tdiv_eq_ediv_of_nonneg (by omega)
 have ar:=sr a
 have alm:aX a<16777216^(n - 1):=by
  refine Q2 ?_
  rw[←Nat.pow_add]
  exact Nat.lt_of_lt_of_le (ER a) (Nat.pow_le_pow_right (by decide) (by omega))
 have alr:16777216^n=16777216*16777216^(n - 1):=by
  rw[←Nat.pow_succ',show (n - 1).succ=n by omega]
 obtain⟨t0,alK⟩:∃t:Nat,t=(bc a+1) / 2:=⟨_,rfl⟩
 have d2:((bc a:Int)+1).tdiv 2=(t0:Int):=by rw[Int.tdiv_eq_ediv_of_nonneg (by omega)];omega
 simp (maxSteps:=2000000) only[↓ak,aj,↓reduceIte,reduceCtorEq,Nat.reduceEqDiff,Nat.reduceLeDiff,Nat.reduceSub,Nat.reduceAdd,Int.reduceToNat,Nat.reducePow,Int.reducePow,Int.reduceLE,Int.reduceLT,IntKind.bits,bF,Nat.reduceBneDiff,Nat.reduceBeqDiff,Nat.reduceLT,List.flatMap_cons,List.flatMap_nil,List.append_nil,List.nil_append,List.cons_append,List.filter_cons,List.filter_nil,List.contains_cons,List.contains_nil,bne_self_eq_false,beq_self_eq_true,List.map_cons,List.map_nil,Gn,Gp,pQ,d1,bO,f99,tO,jQ,d2]
 rw[Kg]
 repeat (refine And.intro (by first|omega|(simp only[aG];omega)|(simp only[aG]at*;omega)|(simp only[List.length_append,List.length_cons,List.length_nil,List.length_set,bL];omega)) ?_)
 refine cc (fun s=>s.af 5= .own 16 0 n∧s.aw 16=some ⟨false,false,.ints .i64 (eF n (aX a))⟩) ?_ ?_
 ·simp (maxSteps:=2000000) only[↓ak,aj,↓reduceIte,reduceCtorEq,Nat.reduceEqDiff,Nat.reduceLeDiff,Nat.reduceSub,Nat.reduceAdd,Int.reduceToNat,Nat.reducePow,Int.reducePow,Int.reduceLE,Int.reduceLT,IntKind.bits,bF,Nat.reduceBneDiff,Nat.reduceBeqDiff,Nat.reduceLT,List.flatMap_cons,List.flatMap_nil,List.append_nil,List.nil_append,List.cons_append,List.filter_cons,List.filter_nil,List.contains_cons,List.contains_nil,bne_self_eq_false,beq_self_eq_true,List.map_cons,List.map_nil,f99,tO,jQ,d2,bO]
  refine⟨⟨a,rfl,by omega⟩,?_⟩
  repeat (refine And.intro (by first|omega|(simp only[aG];omega)|(simp only[aG]at*;omega)|(simp only[List.length_append,List.length_cons,List.length_nil,List.length_set,bL];omega)) ?_)
  refine eC (fun s=>∃(t:Nat) (aJ:List Int),s.af 0= .d (.ints .i64 (ai a))∧s.af 4= .own 14 0 n∧s.af 5= .own 16 0 n∧s.af 6= .own 18 0 n∧s.af 7= .d (.int .i64 (2*t - 2))∧
   s.aw 14=some ⟨false,false,.ints .i64 (eF n (a / 4^t - aX (a / 4^t)*aX (a / 4^t)))⟩∧s.aw 16=some ⟨false,false,.ints .i64 (eF n (aX (a / 4^t)))⟩∧s.aw 18=some ⟨false,false,.ints .i64 aJ⟩∧aJ.length=n∧bQ aJ∧t≤t0)
   (fun s=>match s.af 7 with| .d (.int _ i)=>(i+2).toNat|_=>0) ?_ ?_
  ·refine⟨t0,List.replicate n 0,?_⟩
   have h0:a / 4^t0=0:=Nat.div_eq_of_lt (by
    have:=jb a
    refine Nat.lt_of_lt_of_le this ?_
    rw[show (4:Nat)=2^2 from rfl,←Nat.pow_mul]
    exact Nat.pow_le_pow_right (by decide) (by omega))
   rw[h0,At,Nat.zero_sub,abp]
   simp (maxSteps:=2000000) only[↓ak,aj,↓reduceIte,reduceCtorEq,Nat.reduceEqDiff,Nat.reduceLeDiff,Nat.reduceSub,Nat.reduceAdd,Int.reduceToNat,Nat.reducePow,Int.reducePow,Int.reduceLE,Int.reduceLT,IntKind.bits,bF,Nat.reduceBneDiff,Nat.reduceBeqDiff,Nat.reduceLT,List.flatMap_cons,List.flatMap_nil,List.append_nil,List.nil_append,List.cons_append,List.filter_cons,List.filter_nil,List.contains_cons,List.contains_nil,bne_self_eq_false,beq_self_eq_true,List.map_cons,List.map_nil,Int.toNat_natCast,List.length_replicate]
   (repeat' apply And.intro)<;>first|with_reducible rfl|omega|(simp only[List.length_append,List.length_cons,List.length_nil,List.length_set,List.length_replicate];omega)|(simp only[aG];omega)|(simp only[List.length_set];done)|(rw[Int.toNat_of_nonneg (by omega)];done)|exact(fun x ah=>by rw[List.eq_of_mem_replicate ah];decide)|exact(by congr 3;omega)
  ·rintro s ⟨t,aJ,h0,aE,aI,aM,a4,yR,hB,Kh,p5,alL,ae⟩
   by_cases ld:(2*(t:Int) - 2)≥0
   ·obtain⟨u,rfl⟩:∃u,t=u+1:=⟨t - 1,by omega⟩
    have cF:2*((u+1:Nat):Int) - 2=((2*u:Nat):Int):=by omega
    rw[cF]at a4 ld
    obtain⟨d,aC⟩:∃d,d=a / 4^u % 4:=⟨_,rfl⟩
    obtain⟨N,bR⟩:∃N,N=a / 4^(u+1):=⟨_,rfl⟩
    have Bg:a / 4^u=4*N+d:=by rw[bR,aC];exact abq a u
    have Ki:d<4:=by omega
    obtain⟨cW,dy,fM⟩:=ab4 N d Ki
    have kK:=ab6 N
    have ahQ:aX N≤aX a:=by
     have:N≤a:=by rw[bR];exact Nat.div_le_self _ _
     rcases Nat.lt_or_ge (aX a) (aX N)with bp|tB
     ·exfalso
      have br:=(jG N).1
      have bw:=(jG a).2
      have:=Nat.mul_le_mul (show aX a+1≤aX N from bp) (show aX a+1≤aX N from bp)
      omega
     ·exact tB
    rw[←bR]at yR hB
    obtain⟨L,gu⟩:∃L,L=N - aX N*aX N:=⟨_,rfl⟩
    rw[←gu]at yR cW dy fM kK
    obtain⟨R,dF⟩:∃R,R=aX N:=⟨_,rfl⟩
    rw[←dF]at hB cW dy ahQ kK
    have v1:val (eF n L)=L:=uL (by omega)
    have v2:val (eF n R)=R:=uL (by omega)
    have Dz:val (eF n (L*4+d))=L*4+d:=uL (by omega)
    have v4:val (eF n (R*4+1))=R*4+1:=uL (by omega)
    have f1:2*u / 24<(ai a).length:=by omega
    have f2:((2*u:Nat):Int).tdiv 24=((2*u / 24:Nat):Int):=rfl
    have f3:((2*u:Nat):Int).tmod 24=((2*u % 24:Nat):Int):=rfl
    have f4:2*u % 24≤64:=by omega
    have f5:ji .i64 (((ai a).getD (2*u / 24) 0).fdiv (2^(2*u % 24))) 3=(d:Int):=by
     rw[aaP,MA,show (2:Int)^(2*u % 24)=((2^(2*u % 24):Nat):Int)by rw[Int.natCast_pow];rfl,Int.fdiv_eq_ediv_of_nonneg _ (Int.natCast_nonneg _),aC,←ab5]
     rfl
    have f6:((2*u / 24:Nat):Int)<(ai a).length:=by omega
    have f7:(eF n R).take n=eF n R:=List.take_of_length_le (by rw[eD];omega)
    have f8:aJ.drop n=[]:=List.drop_of_length_le (by omega)
    by_cases zj:R*4+1≤L*4+d
    ·simp (maxSteps:=2000000) only[↓ak,aj,↓reduceIte,reduceCtorEq,Nat.reduceEqDiff,Nat.reduceLeDiff,Nat.reduceSub,Nat.reduceAdd,Int.reduceToNat,Nat.reducePow,Int.reducePow,Int.reduceLE,Int.reduceLT,IntKind.bits,bF,Nat.reduceBneDiff,Nat.reduceBeqDiff,Nat.reduceLT,List.flatMap_cons,List.flatMap_nil,List.append_nil,List.nil_append,List.cons_append,List.filter_cons,List.filter_nil,List.contains_cons,List.contains_nil,bne_self_eq_false,beq_self_eq_true,List.map_cons,List.map_nil,h0,aE,aI,aM,a4,yR,hB,Kh,ld,f1,f2,f3,f4,f5,f6,Int.toNat_natCast,SV,rk,SW,pP,eD,v1,v2,Dz,v4,zj,p5,f7,f8,List.take_zero,List.nil_append,List.append_nil]
     have lP:=cW.1 (by omega)
     rw[if_pos (by omega)]at fM
     rw[lP]at fM
     have FG:aX (a / 4^u)=R*2+1:=by rw[Bg,lP];omega
     have F1:a / 4^u - aX (a / 4^u)*aX (a / 4^u)=L*4+d - (R*4+1):=by rw[Bg,lP,fM];omega
     repeat (refine And.intro (by first|omega|(simp only[aG];omega)|(simp only[aG]at*;omega)|(simp only[List.length_append,List.length_cons,List.length_nil,List.length_set,bL];omega)) ?_)
     refine⟨⟨eF n L,2,d,by rw[eD];rfl,rfl,kC _ _,by rw[eD];omega,by omega,by omega,by rw[v1,eD];omega⟩,
      ⟨eF n R,2,1,by rw[eD];rfl,rfl,kC _ _,by rw[eD];omega,by omega,by omega,by rw[v2,eD];omega⟩,
      ⟨eF n (L*4+d),eF n (R*4+1),by rw[eD,eD],rfl,kC _ _,kC _ _,by rw[eD];omega,by rw[eD,eD]⟩,
      ⟨eF n R,1,1,by rw[eD];rfl,rfl,kC _ _,by rw[eD];omega,by omega,by omega,by rw[v2,eD];omega⟩,?_⟩
     repeat (refine And.intro (by first|omega|(simp only[aG];omega)|(simp only[aG]at*;omega)|(simp only[List.length_append,List.length_cons,List.length_nil,List.length_set,bL];omega)) ?_)
     refine⟨⟨u,eF n (R*4+1),by omega,by rw[F1],by rw[FG],rfl,eD _ _,kC _ _,by omega⟩,by omega⟩
    ·simp (maxSteps:=2000000) only[↓ak,aj,↓reduceIte,reduceCtorEq,Nat.reduceEqDiff,Nat.reduceLeDiff,Nat.reduceSub,Nat.reduceAdd,Int.reduceToNat,Nat.reducePow,Int.reducePow,Int.reduceLE,Int.reduceLT,IntKind.bits,bF,Nat.reduceBneDiff,Nat.reduceBeqDiff,Nat.reduceLT,List.flatMap_cons,List.flatMap_nil,List.append_nil,List.nil_append,List.cons_append,List.filter_cons,List.filter_nil,List.contains_cons,List.contains_nil,bne_self_eq_false,beq_self_eq_true,List.map_cons,List.map_nil,h0,aE,aI,aM,a4,yR,hB,Kh,ld,f1,f2,f3,f4,f5,f6,Int.toNat_natCast,SV,rk,SW,pP,eD,v1,v2,Dz,v4,zj,p5,f7,f8,List.take_zero,List.nil_append,List.append_nil]
     have lP:=dy.1 (by omega)
     rw[if_neg (by omega)]at fM
     rw[lP]at fM
     have FG:aX (a / 4^u)=R*2:=by rw[Bg,lP];omega
     have F1:a / 4^u - aX (a / 4^u)*aX (a / 4^u)=L*4+d:=by rw[Bg,lP,fM];omega
     repeat (refine And.intro (by first|omega|(simp only[aG];omega)|(simp only[aG]at*;omega)|(simp only[List.length_append,List.length_cons,List.length_nil,List.length_set,bL];omega)) ?_)
     refine⟨⟨eF n L,2,d,by rw[eD];rfl,rfl,kC _ _,by rw[eD];omega,by omega,by omega,by rw[v1,eD];omega⟩,
      ⟨eF n R,2,1,by rw[eD];rfl,rfl,kC _ _,by rw[eD];omega,by omega,by omega,by rw[v2,eD];omega⟩,
      ⟨eF n (L*4+d),eF n (R*4+1),by rw[eD,eD],rfl,kC _ _,kC _ _,by rw[eD];omega,by rw[eD,eD]⟩,
      ⟨eF n R,1,0,by rw[eD];rfl,rfl,kC _ _,by rw[eD];omega,by omega,by omega,by rw[v2,eD];omega⟩,?_⟩
     repeat (refine And.intro (by first|omega|(simp only[aG];omega)|(simp only[aG]at*;omega)|(simp only[List.length_append,List.length_cons,List.length_nil,List.length_set,bL];omega)) ?_)
     refine⟨⟨u,eF n (R*4+1),by omega,by rw[F1],by rw[FG],rfl,eD _ _,kC _ _,by omega⟩,by omega⟩
   ·simp (maxSteps:=2000000) only[↓ak,aj,↓reduceIte,reduceCtorEq,Nat.reduceEqDiff,Nat.reduceLeDiff,Nat.reduceSub,Nat.reduceAdd,Int.reduceToNat,Nat.reducePow,Int.reducePow,Int.reduceLE,Int.reduceLT,IntKind.bits,bF,Nat.reduceBneDiff,Nat.reduceBeqDiff,Nat.reduceLT,List.flatMap_cons,List.flatMap_nil,List.append_nil,List.nil_append,List.cons_append,List.filter_cons,List.filter_nil,List.contains_cons,List.contains_nil,bne_self_eq_false,beq_self_eq_true,List.map_cons,List.map_nil,h0,aE,aI,aM,a4,yR,hB,Kh,ld]
    have:t=0:=by omega
    subst this
    rw[Nat.pow_zero,Nat.div_one]
 ·rintro s ⟨aI,hB⟩
  have ae:(eF n (aX a)).take n=eF n (aX a):=List.take_of_length_le (by rw[eD];omega)
  simp (maxSteps:=2000000) only[↓ak,aj,↓reduceIte,reduceCtorEq,Nat.reduceEqDiff,Nat.reduceLeDiff,Nat.reduceSub,Nat.reduceAdd,Int.reduceToNat,Nat.reducePow,Int.reducePow,Int.reduceLE,Int.reduceLT,IntKind.bits,bF,Nat.reduceBneDiff,Nat.reduceBeqDiff,Nat.reduceLT,List.flatMap_cons,List.flatMap_nil,List.append_nil,List.nil_append,List.cons_append,List.filter_cons,List.filter_nil,List.contains_cons,List.contains_nil,bne_self_eq_false,beq_self_eq_true,List.map_cons,List.map_nil,aI,hB,f117,oI,kd,eD,ae]
  repeat (refine And.intro (by first|omega|(simp only[aG];omega)|(simp only[aG]at*;omega)|(simp only[List.length_append,List.length_cons,List.length_nil,List.length_set,bL];omega)) ?_)
  refine⟨⟨_,rfl,kC _ _,by rw[eD];omega⟩,?_⟩
  rw[uL (by omega)]
def vO (p:Int→Bool) (xs:List Int):Int:=match xs.findIdx? p with
 |some i=>i
 |none=> -1
def rS (x:Int):Bool:=x !=0
def ti (x:Int):Bool:=decide (x<0)||decide (x>16777215)
theorem Q8 {p:Int→Bool} {xs:List Int} {i:Nat} (hi:i<xs.length) (h:p (xs.getD i 0)=true) (ad:∀k,k<i→p (xs.getD k 0)=false):vO p xs=i:=by
 have:xs.findIdx? p=some i:=by
  rw[List.findIdx?_eq_some_iff_getElem]
  refine⟨hi,?_,fun j az=> ?_⟩
  ·rw[List.getD_eq_getElem?_getD,List.getElem?_eq_getElem hi]at h;exact h
  ·have:=ad j az
   rw[List.getD_eq_getElem?_getD,List.getElem?_eq_getElem (by omega)]at this
   simpa using this
 unfold vO;rw[this]
theorem OG {p:Int→Bool} {xs:List Int} (ad:∀k,k<xs.length→p (xs.getD k 0)=false):vO p xs= -1:=by
 have:xs.findIdx? p=none:=by
  rw[List.findIdx?_eq_none_iff]
  intro x ah
  obtain⟨i,hi,rfl⟩:=List.mem_iff_getElem.1 ah
  have:=ad i hi
  rw[List.getD_eq_getElem?_getD,List.getElem?_eq_getElem hi]at this
  simpa using this
 unfold vO;rw[this]
def tj:bq where
 pre:=fun ds=>∃x:Int,ds=[.int .i64 x]
 res:=fun ds=>match ds with
  |[.int _ x]=> .bool (x !=0)
  |_=> .nilp
theorem afs (Γ:Env) (ds:List D) (h:tj.pre ds):bH Γ GR GS ds fun d=>d=tj.res ds:=by
 obtain⟨x,rfl⟩:=h
 simp (maxSteps:=2000000) only[↓ak,aj,↓reduceIte,reduceCtorEq,Nat.reduceEqDiff,Nat.reduceLeDiff,Nat.reduceSub,Nat.reduceAdd,Int.reduceToNat,Nat.reducePow,Int.reducePow,Int.reduceLE,Int.reduceLT,IntKind.bits,GR,GS,tj]
def rl:bq where
 pre:=fun ds=>∃x:Int,ds=[.int .i64 x]
 res:=fun ds=>match ds with
  |[.int _ x]=> .bool (ti x)
  |_=> .nilp
theorem aft (Γ:Env) (ds:List D) (h:rl.pre ds):bH Γ BO BP ds fun d=>d=rl.res ds:=by
 obtain⟨x,rfl⟩:=h
 by_cases c:x<0
 ·simp (maxSteps:=2000000) only[↓ak,aj,↓reduceIte,reduceCtorEq,Nat.reduceEqDiff,Nat.reduceLeDiff,Nat.reduceSub,Nat.reduceAdd,Int.reduceToNat,Nat.reducePow,Int.reducePow,Int.reduceLE,Int.reduceLT,IntKind.bits,BO,BP,rl,ti,c]
 ·simp (maxSteps:=2000000) only[↓ak,aj,↓reduceIte,reduceCtorEq,Nat.reduceEqDiff,Nat.reduceLeDiff,Nat.reduceSub,Nat.reduceAdd,Int.reduceToNat,Nat.reducePow,Int.reducePow,Int.reduceLE,Int.reduceLT,IntKind.bits,BO,BP,rl,ti,c]
def nO:bq where
 pre:=fun ds=>∃xs:List Int,(ds=[.ints .i64 xs,.fn 122 [] []]∨ds=[.ints .i64 xs,.fn 126 [] []])∧xs.length≤100000
 res:=fun ds=>match ds with
  |[.ints _ xs,.fn g _ _]=> .int .i64 (vO (if g=122 then rS else ti) xs)
  |_=> .nilp
theorem afu (Γ:Env) (f122:Γ.fn 122=some tj) (SX:Γ.mt 122=none) (f126:Γ.fn 126=some rl) (SY:Γ.mt 126=none) (ds:List D) (h:nO.pre ds):bH Γ BM BN ds fun d=>d=nO.res ds:=by
 obtain⟨xs,rfl|rfl,hlen⟩:=h
 ·simp (maxSteps:=2000000) only[↓ak,aj,↓reduceIte,reduceCtorEq,Nat.reduceEqDiff,Nat.reduceLeDiff,Nat.reduceSub,Nat.reduceAdd,Int.reduceToNat,Nat.reducePow,Int.reducePow,Int.reduceLE,Int.reduceLT,IntKind.bits,BM,BN,nO]
  refine cc (fun s=>∀k,k<xs.length→rS (xs.getD k 0)=false) ?_ ?_
  ·simp (maxSteps:=2000000) only[↓ak,aj,↓reduceIte,reduceCtorEq,Nat.reduceEqDiff,Nat.reduceLeDiff,Nat.reduceSub,Nat.reduceAdd,Int.reduceToNat,Nat.reducePow,Int.reducePow,Int.reduceLE,Int.reduceLT,IntKind.bits]
   refine eC (fun s=>∃i:Nat,s.af 0= .d (.ints .i64 xs)∧s.af 1= .d (.fn 122 [] [])∧s.af 7= .d (.int .i64 xs.length)∧s.af 8= .d (.int .i64 i)∧i≤xs.length∧∀k,k<i→rS (xs.getD k 0)=false)
    (fun s=>match s.af 8 with| .d (.int _ n)=>xs.length - n.toNat|_=>0) ?_ ?_
   ·refine⟨0,?_⟩
    simp (maxSteps:=2000000) only[↓ak,aj,↓reduceIte,reduceCtorEq,Nat.reduceEqDiff,Nat.reduceLeDiff,Nat.reduceSub,Nat.reduceAdd,Int.reduceToNat,Nat.reducePow,Int.reducePow,Int.reduceLE,Int.reduceLT,IntKind.bits]
    exact⟨rfl,Nat.zero_le _,fun k ad=>absurd ad (Nat.not_lt_zero _)⟩
   ·rintro s ⟨i,h0,h1,a4,bz,hi,ad⟩
    by_cases ci:(i:Int)<xs.length
    ·have a1:i<xs.length:=by omega
     cases aS:(xs.getD i 0 !=0)with
     |true=>
      simp (maxSteps:=2000000) only[↓ak,aj,↓reduceIte,reduceCtorEq,Nat.reduceEqDiff,Nat.reduceLeDiff,Nat.reduceSub,Nat.reduceAdd,Int.reduceToNat,Nat.reducePow,Int.reducePow,Int.reduceLE,Int.reduceLT,IntKind.bits,h0,h1,a4,bz,ci,a1,f122,SX,tj,Int.toNat_natCast,aS]
      repeat (refine And.intro (by first|omega|(simp only[aG];omega)|(simp only[aG]at*;omega)|(simp only[List.length_append,List.length_cons,List.length_nil,List.length_set,bL];omega)) ?_)
      exact⟨⟨_,rfl⟩,by rw[Q8 a1 aS ad]⟩
     |false=>
      simp (maxSteps:=2000000) only[↓ak,aj,↓reduceIte,reduceCtorEq,Nat.reduceEqDiff,Nat.reduceLeDiff,Nat.reduceSub,Nat.reduceAdd,Int.reduceToNat,Nat.reducePow,Int.reducePow,Int.reduceLE,Int.reduceLT,IntKind.bits,h0,h1,a4,bz,ci,a1,f122,SX,tj,Int.toNat_natCast,aS]
      repeat (refine And.intro (by first|omega|(simp only[aG];omega)|(simp only[aG]at*;omega)|(simp only[List.length_append,List.length_cons,List.length_nil,List.length_set,bL];omega)) ?_)
      refine⟨⟨_,rfl⟩,?_⟩
      repeat (refine And.intro (by first|omega|(simp only[aG];omega)|(simp only[aG]at*;omega)|(simp only[List.length_append,List.length_cons,List.length_nil,List.length_set,bL];omega)) ?_)
      refine⟨⟨i+1,by omega,by omega,fun k bY=> ?_⟩,by omega⟩
      by_cases e:k=i
      ·rw[e];exact aS
      ·exact ad k (by omega)
    ·simp (maxSteps:=2000000) only[↓ak,aj,↓reduceIte,reduceCtorEq,Nat.reduceEqDiff,Nat.reduceLeDiff,Nat.reduceSub,Nat.reduceAdd,Int.reduceToNat,Nat.reducePow,Int.reducePow,Int.reduceLE,Int.reduceLT,IntKind.bits,h0,h1,a4,bz,ci]
     exact fun k bY=>ad k (by omega)
  ·intro s aH
   simp (maxSteps:=2000000) only[↓ak,aj,↓reduceIte,reduceCtorEq,Nat.reduceEqDiff,Nat.reduceLeDiff,Nat.reduceSub,Nat.reduceAdd,Int.reduceToNat,Nat.reducePow,Int.reducePow,Int.reduceLE,Int.reduceLT,IntKind.bits,OG aH]
 ·simp (maxSteps:=2000000) only[↓ak,aj,↓reduceIte,reduceCtorEq,Nat.reduceEqDiff,Nat.reduceLeDiff,Nat.reduceSub,Nat.reduceAdd,Int.reduceToNat,Nat.reducePow,Int.reducePow,Int.reduceLE,Int.reduceLT,IntKind.bits,BM,BN,nO]
  refine cc (fun s=>∀k,k<xs.length→ti (xs.getD k 0)=false) ?_ ?_
  ·simp (maxSteps:=2000000) only[↓ak,aj,↓reduceIte,reduceCtorEq,Nat.reduceEqDiff,Nat.reduceLeDiff,Nat.reduceSub,Nat.reduceAdd,Int.reduceToNat,Nat.reducePow,Int.reducePow,Int.reduceLE,Int.reduceLT,IntKind.bits]
   refine eC (fun s=>∃i:Nat,s.af 0= .d (.ints .i64 xs)∧s.af 1= .d (.fn 126 [] [])∧s.af 7= .d (.int .i64 xs.length)∧s.af 8= .d (.int .i64 i)∧i≤xs.length∧∀k,k<i→ti (xs.getD k 0)=false)
    (fun s=>match s.af 8 with| .d (.int _ n)=>xs.length - n.toNat|_=>0) ?_ ?_
   ·refine⟨0,?_⟩
    simp (maxSteps:=2000000) only[↓ak,aj,↓reduceIte,reduceCtorEq,Nat.reduceEqDiff,Nat.reduceLeDiff,Nat.reduceSub,Nat.reduceAdd,Int.reduceToNat,Nat.reducePow,Int.reducePow,Int.reduceLE,Int.reduceLT,IntKind.bits]
    exact⟨rfl,Nat.zero_le _,fun k ad=>absurd ad (Nat.not_lt_zero _)⟩
   ·rintro s ⟨i,h0,h1,a4,bz,hi,ad⟩
    by_cases ci:(i:Int)<xs.length
    ·have a1:i<xs.length:=by omega
     cases aS:ti (xs.getD i 0)with
     |true=>
      simp (maxSteps:=2000000) only[↓ak,aj,↓reduceIte,reduceCtorEq,Nat.reduceEqDiff,Nat.reduceLeDiff,Nat.reduceSub,Nat.reduceAdd,Int.reduceToNat,Nat.reducePow,Int.reducePow,Int.reduceLE,Int.reduceLT,IntKind.bits,h0,h1,a4,bz,ci,a1,f126,SY,rl,Int.toNat_natCast,aS]
      repeat (refine And.intro (by first|omega|(simp only[aG];omega)|(simp only[aG]at*;omega)|(simp only[List.length_append,List.length_cons,List.length_nil,List.length_set,bL];omega)) ?_)
      exact⟨⟨_,rfl⟩,by rw[Q8 a1 aS ad]⟩
     |false=>
      simp (maxSteps:=2000000) only[↓ak,aj,↓reduceIte,reduceCtorEq,Nat.reduceEqDiff,Nat.reduceLeDiff,Nat.reduceSub,Nat.reduceAdd,Int.reduceToNat,Nat.reducePow,Int.reducePow,Int.reduceLE,Int.reduceLT,IntKind.bits,h0,h1,a4,bz,ci,a1,f126,SY,rl,Int.toNat_natCast,aS]
      repeat (refine And.intro (by first|omega|(simp only[aG];omega)|(simp only[aG]at*;omega)|(simp only[List.length_append,List.length_cons,List.length_nil,List.length_set,bL];omega)) ?_)
      refine⟨⟨_,rfl⟩,?_⟩
      repeat (refine And.intro (by first|omega|(simp only[aG];omega)|(simp only[aG]at*;omega)|(simp only[List.length_append,List.length_cons,List.length_nil,List.length_set,bL];omega)) ?_)
      refine⟨⟨i+1,by omega,by omega,fun k bY=> ?_⟩,by omega⟩
      by_cases e:k=i
      ·rw[e];exact aS
      ·exact ad k (by omega)
    ·simp (maxSteps:=2000000) only[↓ak,aj,↓reduceIte,reduceCtorEq,Nat.reduceEqDiff,Nat.reduceLeDiff,Nat.reduceSub,Nat.reduceAdd,Int.reduceToNat,Nat.reducePow,Int.reducePow,Int.reduceLE,Int.reduceLT,IntKind.bits,h0,h1,a4,bz,ci]
     exact fun k bY=>ad k (by omega)
  ·intro s aH
   simp (maxSteps:=2000000) only[↓ak,aj,↓reduceIte,reduceCtorEq,Nat.reduceEqDiff,Nat.reduceLeDiff,Nat.reduceSub,Nat.reduceAdd,Int.reduceToNat,Nat.reducePow,Int.reducePow,Int.reduceLE,Int.reduceLT,IntKind.bits,OG aH]
def lI:bq where
 pre:=fun ds=>∃x:Int,ds=[.int .u64 x]∧0<x∧x<18446744073709551616
 res:=fun ds=>match ds with
  |[.int _ x]=> .int .i64 (bJ x.toNat)
  |_=> .nilp
theorem wrap_u64 {x:Int} (h0:0≤x) (h1:x<18446744073709551616):IntKind.u64.wrap x=x:=by
 unfold IntKind.wrap
 simp only[show IntKind.u64.bits=64 from rfl,show IntKind.u64.signed=false from rfl,Bool.false_and,Bool.false_eq_true,if_false]
 omega
def eQ:bq where
 pre:=fun ds=>∃(b:Bool) (m:Nat) (e:Int),ds=[.bool b,a7 m,.int .i64 e]∧(ai m).length≤20000∧-1000000≤e∧e≤1000000
 res:=fun ds=>match ds with
  |[.bool b,.ints _ xs,.int _ e]=>aR (mk b (val xs) e)
  |_=> .nilp
theorem ahR (Γ:Env) (f121:Γ.fn 121=some nO) (SZ:Γ.mt 121=none) (f123:Γ.fn 123=some lI) (afv:Γ.mt 123=none)
 (f84:Γ.fn 84=some jR) (Kj:Γ.mt 84=none) (ds:List D) (h:eQ.pre ds):bH Γ CO CP ds fun d=>d=eQ.res ds:=by
 obtain⟨b,m,e,rfl,aB,HZ,H0⟩:=h
 have DA:nO.own=false:=rfl
 have pi:nO.pre [.ints .i64 (ai m),.fn 122 [] []]:=⟨ai m,.inl rfl,by omega⟩
 by_cases h0:m=0
 ·have aD:nO.res [.ints .i64 (ai m),.fn 122 [] []]= .int .i64 (-1):=by
   rw[h0,gf];rfl
  have c:(-1:Int)<0:=by decide
  have hm:mk b m e=⟨false,0,0⟩:=by unfold mk;rw[if_pos h0]
  simp (maxSteps:=2000000) only[↓ak,aj,↓reduceIte,reduceCtorEq,Nat.reduceEqDiff,Nat.reduceLeDiff,Nat.reduceSub,Nat.reduceAdd,Int.reduceToNat,Nat.reducePow,Int.reducePow,Int.reduceLE,Int.reduceLT,IntKind.bits,CO,CP,eQ,aR,bO,f121,SZ,DA,pi,aD,c,hm,gf]
 ·obtain⟨i,hi⟩:∃i,(ai m).findIdx? rS=some i:=by
   cases hf:(ai m).findIdx? rS with
   |some i=>exact⟨i,rfl⟩
   |none=>
    exfalso
    rw[List.findIdx?_eq_none_iff]at hf
    have aS:=qG h0
    have aB:=DJ h0
    have:=hf _ (List.getElem_mem (show (ai m).length - 1<(ai m).length by omega))
    rw[List.getD_eq_getElem?_getD,List.getElem?_eq_getElem (by omega)]at aB
    simp only[rS,bne_eq_false_iff_eq]at this
    exact aB this
  obtain⟨cW,dy,fM⟩:=List.findIdx?_eq_some_iff_getElem.1 hi
  have ea:(ai m).getD i 0≠0:=by
   rw[List.getD_eq_getElem?_getD,List.getElem?_eq_getElem cW]
   simpa [rS]using dy
  have ft:∀k,k<i→(ai m).getD k 0=0:=fun k ad=>by
   have:=fM k ad
   rw[List.getD_eq_getElem?_getD,List.getElem?_eq_getElem (by omega)]
   simpa [rS]using this
  have ahC:=ab8 cW ft ea
  have aC:=(cN m).getD i
  have als:=pL (n:=((ai m).getD i 0).toNat) (k:=24) (by omega) (by have:=aC.2;omega)
  have aD:nO.res [.ints .i64 (ai m),.fn 122 [] []]= .int .i64 i:=by
   simp only[nO,if_pos,vO,hi]
  have c:¬(i:Int)<0:=by omega
  have hw:=wrap_u64 (x:=(ai m).getD i 0) aC.1 (by omega)
  have a1:(i:Int)*24+(bJ ((ai m).getD i 0).toNat:Int)=(bJ m:Int):=by omega
  simp (maxSteps:=2000000) only[↓ak,aj,↓reduceIte,reduceCtorEq,Nat.reduceEqDiff,Nat.reduceLeDiff,Nat.reduceSub,Nat.reduceAdd,Int.reduceToNat,Nat.reducePow,Int.reducePow,Int.reduceLE,Int.reduceLT,IntKind.bits,CO,CP,eQ,aR,bO,f121,SZ,DA,pi,aD,c,cW,hw,a1,f123,afv,lI,f84,Kj,jR,Int.toNat_natCast]
  repeat (refine And.intro (by first|omega|(simp only[aG];omega)|(simp only[aG]at*;omega)|(simp only[List.length_append,List.length_cons,List.length_nil,List.length_set,bL];omega)) ?_)
  refine⟨⟨_,rfl,by omega,by omega⟩,?_⟩
  have mL:=sr m
  have alM:=pL h0 (jb m)
  repeat (refine And.intro (by first|omega|(simp only[aG];omega)|(simp only[aG]at*;omega)|(simp only[List.length_append,List.length_cons,List.length_nil,List.length_set,bL];omega)) ?_)
  refine⟨⟨_,_,rfl,cN m,aB,by simp only[aG];omega⟩,?_⟩
  repeat (refine And.intro (by first|omega|(simp only[aG];omega)|(simp only[aG]at*;omega)|(simp only[List.length_append,List.length_cons,List.length_nil,List.length_set,bL];omega)) ?_)
  unfold mk
  rw[if_neg h0]
def mU:bq where
 pre:=fun ds=>∃x:a3,ds=[aR x]∧cv x
 res:=fun ds=>match ds with
  |[p]=>aR (dI (dO p))
  |_=> .nilp
theorem ahS (Γ:Env) (f87:Γ.fn 87=some eQ) (k3:Γ.mt 87=none) (ds:List D) (h:mU.pre ds):bH Γ Js Jt ds fun d=>d=mU.res ds:=by
 obtain⟨x,rfl,ah⟩:=h
 have he:=iM ah
 have aB:=ie ah
 have hf:=Oz ah.1
 simp (maxSteps:=2000000) only[↓ak,aj,↓reduceIte,reduceCtorEq,Nat.reduceEqDiff,Nat.reduceLeDiff,Nat.reduceSub,Nat.reduceAdd,Int.reduceToNat,Nat.reducePow,Int.reducePow,Int.reduceLE,Int.reduceLT,IntKind.bits,Js,Jt,mU,aR,b0,f87,k3,eQ,bO,hf]
 exact⟨_,_,_,rfl,by omega,by omega,by omega⟩
def gT:bq where
 pre:=fun ds=>∃(x:a3) (k:Int),ds=[aR x,.int .i64 k]∧cv x∧-100000≤k∧k≤100000
 res:=fun ds=>match ds with
  |[p,.int _ k]=>aR (fx (dO p) k)
  |_=> .nilp
theorem ahT (Γ:Env) (f87:Γ.fn 87=some eQ) (k3:Γ.mt 87=none) (ds:List D) (h:gT.pre ds):bH Γ Jo Jp ds fun d=>d=gT.res ds:=by
 obtain⟨x,k,rfl,ah,vx,tw⟩:=h
 have he:=iM ah
 have aB:=ie ah
 simp (maxSteps:=2000000) only[↓ak,aj,↓reduceIte,reduceCtorEq,Nat.reduceEqDiff,Nat.reduceLeDiff,Nat.reduceSub,Nat.reduceAdd,Int.reduceToNat,Nat.reducePow,Int.reducePow,Int.reduceLE,Int.reduceLT,IntKind.bits,Jo,Jp,gT,aR,b0,fx,f87,k3,eQ,bO]
 repeat (refine And.intro (by first|omega|(simp only[aG];omega)|(simp only[aG]at*;omega)|(simp only[List.length_append,List.length_cons,List.length_nil,List.length_set,bL];omega)) ?_)
 exact⟨x.neg,x.m,x.e+k,rfl,by omega,by omega,by omega⟩
def k4:bq where
 pre:=fun ds=>∃(b:Bool) (xs:List Int) (e:Int),ds=[.agg [.bool b,.ints .i64 xs,.int .i64 e]]
 res:=fun ds=>match ds with
  |[.agg [.bool _,.ints _ xs,.int _ _]]=> .bool ((xs.length:Int)==0)
  |_=> .nilp
theorem ahU (Γ:Env) (ds:List D) (h:k4.pre ds):bH Γ J5 J6 ds fun d=>d=k4.res ds:=by
 obtain⟨b,xs,e,rfl⟩:=h
 simp (maxSteps:=2000000) only[↓ak,aj,↓reduceIte,reduceCtorEq,Nat.reduceEqDiff,Nat.reduceLeDiff,Nat.reduceSub,Nat.reduceAdd,Int.reduceToNat,Nat.reducePow,Int.reducePow,Int.reduceLE,Int.reduceLT,IntKind.bits,J5,J6,k4]
theorem EU (x:a3):k4.res [.agg [.bool x.neg,.ints .i64 (ai x.m),.int .i64 x.e]]= .bool (decide (x.m=0)):=by
 show D.bool (((ai x.m).length:Int)==0)=_
 by_cases h0:x.m=0
 ·rw[yM h0,decide_eq_true h0]
 ·rw[rN h0,decide_eq_false h0]
def vt:bq where
 pre:=fun ds=>∃(x:a3) (k:Int),ds=[aR x,.int .i64 k]∧cv x∧-50000≤k∧k≤50000
 res:=fun ds=>match ds with
  |[p,.int _ k]=>a7 ((dO p).m*2^((dO p).e - k).toNat)
  |_=> .nilp
theorem afw (Γ:Env) (f100:Γ.fn 100=some kQ) (BX:Γ.mt 100=none) (ds:List D) (h:vt.pre ds):bH Γ Gu Gv ds fun d=>d=vt.res ds:=by
 obtain⟨x,k,rfl,ah,vx,tw⟩:=h
 have he:=iM ah
 have aB:=ie ah
 simp (maxSteps:=2000000) only[↓ak,aj,↓reduceIte,reduceCtorEq,Nat.reduceEqDiff,Nat.reduceLeDiff,Nat.reduceSub,Nat.reduceAdd,Int.reduceToNat,Nat.reducePow,Int.reducePow,Int.reduceLE,Int.reduceLT,IntKind.bits,Gu,Gv,vt,aR,b0,f100,BX,kQ,bO]
 repeat (refine And.intro (by first|omega|(simp only[aG];omega)|(simp only[aG]at*;omega)|(simp only[List.length_append,List.length_cons,List.length_nil,List.length_set,bL];omega)) ?_)
 exact⟨_,_,rfl,cN _,by omega,by omega⟩
def pR:bq where
 pre:=fun ds=>∃x y:a3,ds=[aR x,aR y]∧cv x∧cv y
 res:=fun ds=>match ds with
  |[p,q]=>aR (cH (dO p) (dO q))
  |_=> .nilp
theorem afx (Γ:Env) (f87:Γ.fn 87=some eQ) (k3:Γ.mt 87=none) (f103:Γ.fn 103=some nN) (BZ:Γ.mt 103=none) (ds:List D) (h:pR.pre ds):bH Γ Gx Gy ds fun d=>d=pR.res ds:=by
 obtain⟨x,y,rfl,ah,hy⟩:=h
 have ex:=iM ah
 have sf:=iM hy
 have cP:=ie ah
 have ga:=ie hy
 have akB:=uB x.m y.m
 have aw:=kI ah
 have Lh:=kI hy
 have rG:=qV (n:=x.m*y.m) (by omega)
 simp (maxSteps:=2000000) only[↓ak,aj,↓reduceIte,reduceCtorEq,Nat.reduceEqDiff,Nat.reduceLeDiff,Nat.reduceSub,Nat.reduceAdd,Int.reduceToNat,Nat.reducePow,Int.reducePow,Int.reduceLE,Int.reduceLT,IntKind.bits,Gx,Gy,pR,aR,b0,cH,f87,k3,eQ,f103,BZ,nN,bO]
 refine⟨⟨_,_,rfl,cN _,cN _,by omega,by omega⟩,?_⟩
 repeat (refine And.intro (by first|omega|(simp only[aG];omega)|(simp only[aG]at*;omega)|(simp only[List.length_append,List.length_cons,List.length_nil,List.length_set,bL];omega)) ?_)
 exact⟨_,_,_,rfl,rG,by omega,by omega⟩
end RV.Dr
namespace RV.Dr
open Go Go.RowKit RV
set_option linter.unusedSimpArgs false
set_option linter.unusedVariables false
set_option maxRecDepth 100000
set_option maxHeartbeats 4000000
theorem acT (x A j v:Int) (w:World) (h0:(x==0)=false) (hA:bits BinOp.and IntKind.u64 x (IntKind.u64.wrap (-x))=A) (az:IntKind.u64.wrap (A*285870213051353865) / 288230376151711744=j)
 (ahV:0≤j) (vI:j<64) (ao:w.cell? { block:=1,off:=j.toNat } =some (.int .u8 v)) (aA:IntKind.i64.wrap v=v):
 Calls Go.Proofs.Tryz.prog 142 #[.int .u64 x] w fun e w'=>e= .returned (.int .i64 v)∧w'=w:=by
 have alN:(0≤j∧j<64)=True:=by simp[ahV,vI]
 go_enter Go.Proofs.Tryz.func142,Go.Proofs.Tryz.ntmps142
 go_wp2
 go_ret
 exact⟨rfl,rfl⟩
theorem abr {o s:Nat} (bh:o % 2=1) (ay:o<2^s):o &&& (2^s - o)=1:=by
 have xL:0<s:=by
  rcases Nat.eq_zero_or_pos s with h|h
  ·subst h;simp at ay;omega
  ·exact h
 have e:2^s - o=2^s - ((o - 1)+1):=by omega
 refine Nat.eq_of_testBit_eq fun i=> ?_
 rw[Nat.testBit_and,e,Nat.testBit_two_pow_sub_succ (by omega)]
 cases i with
 |zero=>
  have h1:o.testBit 0=true:=by rw[Nat.testBit_zero];simp[bh]
  have h2:(o - 1).testBit 0=false:=by rw[Nat.testBit_zero];simp;omega
  rw[h1,h2]
  simp[xL]
 |succ i=>
  have h1:o.testBit (i+1)=(o / 2).testBit i:=Nat.testBit_succ ..
  have h2:(o - 1).testBit (i+1)=(o / 2).testBit i:=by rw[Nat.testBit_succ,show (o - 1) / 2=o / 2 by omega]
  have al:(1:Nat).testBit (i+1)=false:=by rw[Nat.testBit_succ];simp
  rw[h1,h2,al]
  cases (o / 2).testBit i<;>simp
theorem acU {x:Nat} (h0:x≠0) (ah:x<2^64):x &&& (2^64 - x)=2^bJ x:=by
 have ay:=hJ h0
 have ae:=pL h0 ah
 obtain⟨o,bh⟩:∃o,o=x / 2^bJ x:=⟨_,rfl⟩
 rw[←bh]at ay
 have aS:(2:Nat)^64=2^(64 - bJ x)*2^bJ x:=by rw[←Nat.pow_add];congr 1;omega
 have bp:o<2^(64 - bJ x):=by
  rw[←ay.1,aS]at ah
  exact Nat.lt_of_mul_lt_mul_right ah
 have e:2^64 - x=(2^(64 - bJ x) - o)*2^bJ x:=by rw[Nat.sub_mul,←aS,ay.1]
 have a6:x &&& (2^64 - x)=(o*2^bJ x) &&& ((2^(64 - bJ x) - o)*2^bJ x):=by rw[ay.1,e]
 rw[a6,←Nat.shiftLeft_eq,←Nat.shiftLeft_eq,←Nat.shiftLeft_and_distrib,abr ay.2 bp,Nat.shiftLeft_eq,Nat.one_mul]
def qa (t:Nat):Nat:=(2^t*285870213051353865 % 18446744073709551616) / 288230376151711744
theorem Q9 (t:Nat):qa t<64:=by unfold qa;omega
def HH (B:Mem):Prop:=∀t:Nat,t<64→B (cellAt 1 (qa t))=some (.int .u8 t)
theorem R6 (n:Int):IntKind.u64.wrap n=n % 18446744073709551616:=by
 unfold IntKind.wrap
 simp[show IntKind.u64.bits=64 from rfl,show IntKind.u64.signed=false from rfl]
def x2:bq where
 pre:=lI.pre
 res:=lI.res
theorem ad9 {B:Mem} (aN:HH B):my Go.Proofs.Tryz.prog B 142 x2:=by
 refine⟨⟨Go.Proofs.Tryz.f142,by kernel_rfl,by decide,by decide⟩,?_⟩
 rintro ds ⟨x,rfl,h0,h1⟩ w rd vs ahW ahX aq
 simp only[bI,bn]at aq
 obtain⟨v,us,aA,rfl,rfl⟩:=aq
 have yf:vs= #[.int .u64 x]:=by rw[←Array.toList_inj];exact aA
 subst yf
 obtain⟨n,rfl⟩:∃n:Nat,x=n:=⟨x.toNat,by omega⟩
 have dj:n≠0:=by omega
 have hz:n<2^64:=by omega
 have ae:=pL dj hz
 have hw:IntKind.u64.wrap (-(n:Int))=((2^64 - n:Nat):Int):=by rw[R6];omega
 have hA:bits BinOp.and IntKind.u64 (n:Int) (IntKind.u64.wrap (-(n:Int)))=((2^bJ n:Nat):Int):=by
  rw[hw,bits_and_u64_nat n (2^64 - n) hz (by omega),acU dj hz]
 have az:IntKind.u64.wrap (((2^bJ n:Nat):Int)*285870213051353865) / 288230376151711744=((qa (bJ n):Nat):Int):=by
  rw[R6]
  unfold qa
  generalize 2^bJ n=p
  omega
 have gl:w.cell? { block:=1,off:=((qa (bJ n):Nat):Int).toNat } =some (.int .u8 ((bJ n:Nat):Int)):=by
  rw[Int.toNat_natCast]
  exact ahX _ _ (ahW _ _ (aN _ ae))
 have hZ:IntKind.i64.wrap ((bJ n:Nat):Int)=((bJ n:Nat):Int):=wrap_small (by omega)
 have ahY:((n:Int)==0)=false:=by simpa using dj
 refine(acT n _ _ _ w ahY hA az (by omega) (by have:=Q9 (bJ n);omega) gl hZ).mono ?_
 rintro e w' ⟨rfl,rfl⟩
 refine⟨_,rfl,Below.refl _ _,fun _=> ?_,fun h=>by cases h⟩
 simp only[bn,x2,lI,Int.toNat_natCast]
theorem afy (Γ:Env) (f142:Γ.fn 142=some x2) (afz:Γ.mt 142=none) (ds:List D) (h:lI.pre ds):bH Γ GU GV ds fun d=>d=lI.res ds:=by
 obtain⟨x,rfl,h0,h1⟩:=h
 simp (maxSteps:=2000000) only[↓ak,aj,↓reduceIte,reduceCtorEq,Nat.reduceEqDiff,Nat.reduceLeDiff,Nat.reduceSub,Nat.reduceAdd,Int.reduceToNat,Nat.reducePow,Int.reducePow,Int.reduceLE,Int.reduceLT,IntKind.bits,GU,GV,lI,f142,afz,x2]
 exact⟨x,rfl,h0,h1⟩
end RV.Dr
namespace RV.Dr
open Go RV
set_option linter.unusedSimpArgs false
set_option linter.unusedVariables false
set_option maxRecDepth 100000
set_option maxHeartbeats 4000000
def gd (K:Int) (Q:Nat):Nat:=(K % (2^Q:Nat)).toNat
def jZ (K:Int) (Q:Nat):Nat:=gd K Q / 2^bJ (gd K Q)
def j0 (K:Int) (Q:Nat):Nat:=if gd K Q=0 then 0 else Q - bJ (gd K Q)
def cl (K Q:Int):D:= .agg [.int .i64 K,.int .i64 Q]
theorem Bh (K:Int) (Q:Nat):gd K Q<2^Q:=by
 have:=Int.emod_lt_of_pos K (show (0:Int)<(2^Q:Nat)by exact_mod_cast Nat.two_pow_pos Q)
 have:=Int.emod_nonneg K (show ((2^Q:Nat):Int)≠0 by have:=Nat.two_pow_pos Q;omega)
 unfold gd
 omega
theorem Ff (K:Int) (Q:Nat):K % (2^Q:Nat)=(gd K Q:Int):=by
 have:=Int.emod_nonneg K (show ((2^Q:Nat):Int)≠0 by have:=Nat.two_pow_pos Q;omega)
 unfold gd
 omega
theorem R7 {K:Int} {Q:Nat} (h:gd K Q≠0):bJ (gd K Q)<Q:=pL h (Bh K Q)
theorem R8 {Q:Nat} (h:Q≤60):2^Q≤1152921504606846976:=Nat.pow_le_pow_right (n:=2) (by decide) h
def an (K:Int) (Q:Nat):Nat:=((K*(2^(60 - Q):Nat)) % (1152921504606846976:Int)).toNat
def b6 (a:Nat):Nat:=a / 2^bJ a
def a5 (a:Nat):Nat:=if a=0 then 0 else 60 - bJ a
def jB (a:Nat):D:=cl (b6 a) (a5 a)
theorem ig (K:Int) (Q:Nat):an K Q<1152921504606846976:=by unfold an;omega
theorem aea (K:Int) {Q:Nat} (h:Q≤60):an K Q=gd K Q*2^(60 - Q):=by
 have e:(1152921504606846976:Int)=(2^Q:Nat)*(2^(60 - Q):Nat):=by
  rw[←Int.natCast_mul,←Nat.pow_add,show Q+(60 - Q)=60 by omega];decide
 unfold an
 rw[e,Int.mul_comm K,Int.mul_comm ((2^Q:Nat):Int),Int.mul_emod_mul_of_pos _ _ (by have:=Nat.two_pow_pos (60 - Q);omega),Ff,Int.mul_comm,←Int.natCast_mul,Int.toNat_natCast]
theorem F2 (K:Int) {Q:Nat} (h:Q≤60):jZ K Q=b6 (an K Q)∧j0 K Q=a5 (an K Q):=by
 rw[aea K h]
 unfold jZ j0 b6 a5
 by_cases h0:gd K Q=0
 ·rw[h0];exact⟨by simp,by simp⟩
 ·have aS:=Nat.two_pow_pos (60 - Q)
  have h1:gd K Q*2^(60 - Q)≠0:=Nat.ne_of_gt (Nat.mul_pos (Nat.pos_of_ne_zero h0) aS)
  have h2:=R7 h0
  rw[if_neg h0,if_neg h1,Nat.mul_comm,Ej h0]
  refine⟨?_,by omega⟩
  rw[Nat.pow_add,Nat.mul_div_mul_left _ _ aS]
theorem R9 (K:Int) {Q:Nat} (h:Q≤60):cl (jZ K Q) (j0 K Q)=jB (an K Q):=by rw[(F2 K h).1,(F2 K h).2];rfl
theorem pC:b6 0=0∧a5 0=0:=⟨by unfold b6;exact Nat.zero_div _,if_pos rfl⟩
theorem B0 {a:Nat} (h0:a≠0) (h:a<1152921504606846976):bJ a<60:=pL (k:=60) h0 h
theorem sY (a:Nat):a5 a≤60:=by unfold a5;split<;>omega
theorem sZ {a:Nat} (h:a<1152921504606846976):b6 a*2^(60 - a5 a)=a:=by
 by_cases h0:a=0
 ·subst h0;rw[pC.1,Nat.zero_mul]
 ·have h1:=B0 h0 h
  unfold b6 a5
  rw[if_neg h0,show 60 - (60 - bJ a)=bJ a by omega]
  exact(hJ h0).1
theorem Bi {a:Nat} (h:a<1152921504606846976):b6 a<1152921504606846976:=Nat.lt_of_le_of_lt (Nat.div_le_self _ _) h
theorem FH (k q:Nat):an (k:Int) q=k*2^(60 - q) % 1152921504606846976:=by unfold an;omega
theorem vu {a:Nat} (h:a<1152921504606846976):an (b6 a) (a5 a)=a:=by rw[FH,sZ h];exact Nat.mod_eq_of_lt h
theorem adF (K:Int) (Q:Nat):an (-K) Q=(1152921504606846976 - an K Q) % 1152921504606846976:=by unfold an;rw[Int.neg_mul];omega
theorem adG (K L:Int) (Q:Nat):an (K+L) Q=(an K Q+an L Q) % 1152921504606846976:=by unfold an;rw[Int.add_mul];omega
theorem Ra (K:Int) {Q q:Nat} (h1:Q≤q) (h2:q≤60):an (K*(2^(q - Q):Nat)) q=an K Q:=by
 unfold an
 rw[Int.mul_assoc,←Int.natCast_mul,←Nat.pow_add,show q - Q+(60 - q)=60 - Q by omega]
theorem u1 {a q:Nat} (h:a<1152921504606846976) (h1:a5 a≤q) (h2:q≤60):b6 a*2^(q - a5 a)=a / 2^(60 - q):=by
 refine(Nat.div_eq_of_eq_mul_left (Nat.two_pow_pos _) ?_).symm
 rw[Nat.mul_assoc,←Nat.pow_add,show q - a5 a+(60 - q)=60 - a5 a by omega,sZ h]
theorem pM (K:Int) {Q:Nat} (h:Q≤60):a5 (an K Q)≤Q:=by rw[←(F2 K h).2];unfold j0;split<;>omega
theorem bX {Γ:Env} {a b:au} {Q:eg→St→Prop} {σ:St} (P:St→Prop) (a2:bZ Γ a (fun e s=>match e with| .normal=>P s|e=>Q e s) σ) (ar:∀s,P s→bZ Γ b Q s):bZ Γ (.seq a b) Q σ:=cc (a:=a) (b:=b) P a2 ar
def mD:bq where
 pre:=fun ds=>∃(K:Int) (Q:Nat),ds=[cl K Q]∧Q≤60
 res:=fun ds=>match ds with
  |[.agg [.int _ K,.int _ Q]]=>jB (an K Q.toNat)
  |_=> .nilp
theorem afA (Γ:Env) (afB:Γ.has 123 lI) (ds:List D) (h:mD.pre ds):bH Γ BI BJ ds fun d=>d=mD.res ds:=by
 obtain⟨K,Q,rfl,cn⟩:=h
 have aS:=R8 cn
 have h0:=Nat.two_pow_pos Q
 have s7:Q≤64:=by omega
 have hZ:IntKind.u64.wrap (gd K Q:Int)=(gd K Q:Int):=wrap_u64 (by omega) (by have:=Bh K Q;omega)
 have mP:(1:Int)*2^Q=((2^Q:Nat):Int):=by rw[Int.one_mul];exact_mod_cast rfl
 have tx:((2^Q:Nat):Int) - 1=((2^Q - 1:Nat):Int):=by omega
 have hand:ji .i64 K ((2^Q - 1:Nat):Int)=(gd K Q:Int):=by rw[w6 Q (by omega),Ff]
 have bp:=Bh K Q
 have cq:mD.res [cl K Q]=cl (jZ K Q) (j0 K Q):=by simp only[mD,cl,Int.toNat_natCast];exact(R9 K cn).symm
 rw[cq]
 by_cases aH:gd K Q=0
 ·have a1:jZ K Q=0:=by unfold jZ;rw[aH];exact Nat.zero_div _
  have a6:j0 K Q=0:=by unfold j0;rw[if_pos aH]
  have aeb:ji .i64 K ((2^Q - 1:Nat):Int)=0:=by rw[hand,aH];rfl
  rw[fP]
  unfold BI BJ
  refine bX (fun s=>s.af 1= .box 1 0∧s.aw 1=some ⟨false,false,.cells [.d (.int .i64 K),.d (.int .i64 Q)]⟩∧s.af 2= .box 2 0∧s.aw 2=some ⟨false,false,.cells [.d (.int .i64 0),.d (.int .i64 0)]⟩) ?_ ?_
  ·simp (maxSteps:=2000000) only[↓ak,aj,↓reduceIte,reduceCtorEq,Nat.reduceEqDiff,Nat.reduceLeDiff,Nat.reduceSub,Nat.reduceAdd,Int.reduceToNat,Nat.reducePow,Int.reducePow,Int.reduceLE,Int.reduceLT,IntKind.bits,cl]
  rintro s ⟨h1,cf,h2,aY⟩
  refine bX (fun s=>s.af 1= .box 1 0∧s.aw 1=some ⟨false,false,.cells [.d (.int .i64 0),.d (.int .i64 Q)]⟩∧s.af 2= .box 2 0∧s.aw 2=some ⟨false,false,.cells [.d (.int .i64 0),.d (.int .i64 0)]⟩) ?_ ?_
  ·simp (maxSteps:=2000000) only[↓ak,aj,↓reduceIte,reduceCtorEq,Nat.reduceEqDiff,Nat.reduceLeDiff,Nat.reduceSub,Nat.reduceAdd,Int.reduceToNat,Nat.reducePow,Int.reducePow,Int.reduceLE,Int.reduceLT,IntKind.bits,h1,cf,h2,aY,Int.toNat_natCast,s7,mP,tx,aeb]
   ((repeat' apply And.intro)<;>first|assumption|with_reducible rfl|omega|(simp only[aG];omega)|exact⟨_,rfl⟩|exact⟨_,_,_,rfl⟩|exact⟨_,_,_,_,_,_,rfl⟩)
  rintro s ⟨h1,cf,h2,aY⟩
  have Kk:((jZ K Q:Nat):Int)=0:=by rw[a1];rfl
  have Kl:((j0 K Q:Nat):Int)=0:=by rw[a6];rfl
  simp (maxSteps:=2000000) only[↓ak,aj,↓reduceIte,reduceCtorEq,Nat.reduceEqDiff,Nat.reduceLeDiff,Nat.reduceSub,Nat.reduceAdd,Int.reduceToNat,Nat.reducePow,Int.reducePow,Int.reduceLE,Int.reduceLT,IntKind.bits,h1,cf,h2,aY,Kk,Kl,cl]
 ·have bg:=R7 aH
  have ar:((gd K Q:Int)==0)=false:=beq_false_of_ne (by omega)
  have afC:bJ (gd K Q)≤64:=by omega
  have ahZ:((gd K Q:Nat):Int).fdiv (2^bJ (gd K Q))=(jZ K Q:Int):=by
   rw[Int.fdiv_eq_ediv_of_nonneg _ (Int.le_of_lt (Int.pow_pos (by decide)))]
   unfold jZ
   exact_mod_cast rfl
  have akE:(Q:Int) - bJ (gd K Q)=(j0 K Q:Int):=by unfold j0;rw[if_neg aH];omega
  have akF:lI.pre [.int .u64 (gd K Q)]:=⟨_,rfl,by omega,by omega⟩
  have akG:lI.res [.int .u64 (gd K Q)]= .int .i64 (bJ (gd K Q)):=by simp only[lI,Int.toNat_natCast]
  simp (maxSteps:=60000) only[↓ak,aj,↓reduceIte,reduceCtorEq,Nat.reduceEqDiff,Nat.reduceLeDiff,Nat.reduceSub,Nat.reduceAdd,Int.reduceToNat,Nat.reducePow,Int.reducePow,Int.reduceLE,Int.reduceLT,IntKind.bits,BI,BJ,cl,Int.toNat_natCast,s7,mP,tx,hand,ar,hZ,afB,akF,akG,afC,ahZ,akE]
  ((repeat' apply And.intro)<;>first|assumption|with_reducible rfl|omega|(simp only[aG];omega)|exact⟨_,rfl⟩|exact⟨_,_,_,rfl⟩|exact⟨_,_,_,_,_,_,rfl⟩)
theorem vv (K:Int) (Q:Nat):mD.res [.agg [.int .i64 K,.int .i64 Q]]= .agg [.int .i64 (b6 (an K Q)),.int .i64 (a5 (an K Q))]:=by simp only[mD,Int.toNat_natCast];rfl
theorem i111 (K:Int) {Q:Nat} (h:Q≤60):mD.pre [.agg [.int .i64 K,.int .i64 Q]]:=⟨K,Q,rfl,h⟩
def mE:bq where
 pre:=fun ds=>∃(K:Int) (Q:Nat),ds=[cl K Q]∧Q≤60∧aG (-K)
 res:=fun ds=>match ds with
  |[.agg [.int _ K,.int _ Q]]=>jB (an (-K) Q.toNat)
  |_=> .nilp
theorem afD (Γ:Env) (rm:Γ.has 111 mD) (ds:List D) (h:mE.pre ds):bH Γ Hs Ht ds fun d=>d=mE.res ds:=by
 obtain⟨K,Q,rfl,cn,aq⟩:=h
 have cq:mE.res [cl K Q]=jB (an (-K) Q):=by simp only[mE,cl,Int.toNat_natCast]
 rw[cq]
 have p1:=i111 (-K) cn
 have bP:=vv (-K) Q
 simp (maxSteps:=2000000) only[↓ak,aj,↓reduceIte,reduceCtorEq,Nat.reduceEqDiff,Nat.reduceLeDiff,Nat.reduceSub,Nat.reduceAdd,Int.reduceToNat,Nat.reducePow,Int.reducePow,Int.reduceLE,Int.reduceLT,IntKind.bits,Hs,Ht,cl,rm,Int.zero_sub,p1,bP,aq,jB]
theorem S0 (K:Int) (Q:Nat):mE.res [.agg [.int .i64 K,.int .i64 Q]]= .agg [.int .i64 (b6 (an (-K) Q)),.int .i64 (a5 (an (-K) Q))]:=by simp only[mE,Int.toNat_natCast];rfl
def oJ:bq where
 pre:=fun ds=>∃(K:Int) (Q:Nat) (L:Int) (R:Nat),ds=[cl K Q,cl L R]∧Q≤60∧R≤60
 res:=fun ds=>match ds with
  |[.agg [.int _ K,.int _ Q],.agg [.int _ L,.int _ R]]=>jB ((an K Q.toNat+an L R.toNat) % 1152921504606846976)
  |_=> .nilp
theorem afE (Γ:Env) (rm:Γ.has 111 mD) (ds:List D) (h:oJ.pre ds):bH Γ Hu Hv ds fun d=>d=oJ.res ds:=by
 obtain⟨K,Q,L,R,rfl,cn,dF⟩:=h
 have cq:oJ.res [cl K Q,cl L R]=jB ((an K Q+an L R) % 1152921504606846976):=by simp only[oJ,cl,Int.toNat_natCast]
 rw[cq]
 have p1:=i111 K cn
 have bP:=vv K Q
 have cS:=i111 L dF
 have ca:=vv L R
 obtain⟨a,a2⟩:∃a,a=an K Q:=⟨_,rfl⟩
 obtain⟨b,ar⟩:∃b,b=an L R:=⟨_,rfl⟩
 have ck:a<1152921504606846976:=a2▸ig K Q
 have da:b<1152921504606846976:=ar▸ig L R
 have akH:a5 a≤60:=sY a
 have amp:a5 b≤60:=sY b
 rw[←a2]at bP
 rw[←ar]at ca
 rw[←a2,←ar]
 obtain⟨q,aZ⟩:∃q,q=max (a5 a) (a5 b):=⟨_,rfl⟩
 have lP:a5 a≤q:=by omega
 have mO:a5 b≤q:=by omega
 have tN:q≤60:=by omega
 have s1:(q:Int) - (a5 a:Int)=((q - a5 a:Nat):Int):=by omega
 have s2:(q:Int) - (a5 b:Int)=((q - a5 b:Nat):Int):=by omega
 have bW:(b6 a:Int)*2^(q - a5 a)=((b6 a*2^(q - a5 a):Nat):Int):=by rw[Int.natCast_mul];exact_mod_cast rfl
 have cy:(b6 b:Int)*2^(q - a5 b)=((b6 b*2^(q - a5 b):Nat):Int):=by rw[Int.natCast_mul];exact_mod_cast rfl
 have cW:=u1 ck lP tN
 have dy:=u1 da mO tN
 have bf:a / 2^(60 - q)≤a:=Nat.div_le_self _ _
 have bd:b / 2^(60 - q)≤b:=Nat.div_le_self _ _
 have gw:q - a5 a≤64:=by omega
 have hG:q - a5 b≤64:=by omega
 have g2:=i111 (((b6 a*2^(q - a5 a):Nat):Int)+((b6 b*2^(q - a5 b):Nat):Int)) tN
 have g1:=vv (((b6 a*2^(q - a5 a):Nat):Int)+((b6 b*2^(q - a5 b):Nat):Int)) q
 rw[adG,Int.natCast_mul,Int.natCast_mul,Ra _ lP tN,Ra _ mO tN,vu ck,vu da,←Int.natCast_mul,←Int.natCast_mul]at g1
 rw[fP]
 unfold Hu Hv
 refine bX (fun s=>s.af 2= .box 2 0∧s.aw 2=some ⟨false,false,.cells [.d (.int .i64 K),.d (.int .i64 Q)]⟩∧s.af 3= .box 3 0∧s.aw 3=some ⟨false,false,.cells [.d (.int .i64 L),.d (.int .i64 R)]⟩∧s.af 4= .box 4 0∧s.aw 4=some ⟨false,false,.cells [.d (.int .i64 0),.d (.int .i64 0)]⟩) ?_ ?_
 ·simp (maxSteps:=2000000) only[↓ak,aj,↓reduceIte,reduceCtorEq,Nat.reduceEqDiff,Nat.reduceLeDiff,Nat.reduceSub,Nat.reduceAdd,Int.reduceToNat,Nat.reducePow,Int.reducePow,Int.reduceLE,Int.reduceLT,IntKind.bits,cl]
 rintro s ⟨h2,aY,al,aW,aE,aU⟩
 refine bX (fun s=>s.af 2= .box 2 0∧s.aw 2=some ⟨false,false,.cells [.d (.int .i64 (b6 a)),.d (.int .i64 (a5 a))]⟩∧s.af 3= .box 3 0∧s.aw 3=some ⟨false,false,.cells [.d (.int .i64 (b6 b)),.d (.int .i64 (a5 b))]⟩∧s.af 4= .box 4 0∧s.aw 4=some ⟨false,false,.cells [.d (.int .i64 0),.d (.int .i64 0)]⟩) ?_ ?_
 ·simp (maxSteps:=2000000) only[↓ak,aj,↓reduceIte,reduceCtorEq,Nat.reduceEqDiff,Nat.reduceLeDiff,Nat.reduceSub,Nat.reduceAdd,Int.reduceToNat,Nat.reducePow,Int.reducePow,Int.reduceLE,Int.reduceLT,IntKind.bits,h2,aY,al,aW,aE,aU,rm,p1,bP,cS,ca]
 rintro s ⟨h2,aY,al,aW,aE,aU⟩
 refine bX (fun s=>s.af 5= .d (.int .i64 q)∧s.af 2= .box 2 0∧s.aw 2=some ⟨false,false,.cells [.d (.int .i64 (b6 a)),.d (.int .i64 (a5 a))]⟩∧s.af 3= .box 3 0∧s.aw 3=some ⟨false,false,.cells [.d (.int .i64 (b6 b)),.d (.int .i64 (a5 b))]⟩∧s.af 4= .box 4 0∧s.aw 4=some ⟨false,false,.cells [.d (.int .i64 0),.d (.int .i64 0)]⟩) ?_ ?_
 ·simp (maxSteps:=2000000) only[↓ak,aj,↓reduceIte,reduceCtorEq,Nat.reduceEqDiff,Nat.reduceLeDiff,Nat.reduceSub,Nat.reduceAdd,Int.reduceToNat,Nat.reducePow,Int.reducePow,Int.reduceLE,Int.reduceLT,IntKind.bits,h2,aY,al,aW,aE,aU]
  split<;>omega
 rintro s ⟨aI,h2,aY,al,aW,aE,aU⟩
 simp (maxSteps:=2000000) only[↓ak,aj,↓reduceIte,reduceCtorEq,Nat.reduceEqDiff,Nat.reduceLeDiff,Nat.reduceSub,Nat.reduceAdd,Int.reduceToNat,Nat.reducePow,Int.reducePow,Int.reduceLE,Int.reduceLT,IntKind.bits,aI,h2,aY,al,aW,aE,aU,cl,rm,s1,s2,Int.toNat_natCast,gw,hG,bW,cy,g2,g1,jB]
 ((repeat' apply And.intro)<;>first|assumption|with_reducible rfl|omega|(simp only[aG];omega)|exact⟨_,rfl⟩|exact⟨_,_,_,rfl⟩|exact⟨_,_,_,_,_,_,rfl⟩)
def rn:bq where
 pre:=fun ds=>∃e:Nat,ds=[.int .i64 e]∧e≤8
 res:=fun ds=>match ds with
  |[.int _ e]=>jB (an (-e) 3)
  |_=> .nilp
theorem afF (Γ:Env) (HI:Γ.has 149 mE) (ds:List D) (h:rn.pre ds):bH Γ Hq Hr ds fun d=>d=rn.res ds:=by
 obtain⟨e,rfl,he⟩:=h
 have p1:mE.pre [.agg [.int .i64 e,.int .i64 3]]:=⟨e,3,rfl,by omega,by simp only[aG];omega⟩
 have bP:=S0 e 3
 have ah0:mE.res [.agg [.int .i64 e,.int .i64 3]]= .agg [.int .i64 (b6 (an (-e) 3)),.int .i64 (a5 (an (-e) 3))]:=bP
 simp (maxSteps:=2000000) only[↓ak,aj,↓reduceIte,reduceCtorEq,Nat.reduceEqDiff,Nat.reduceLeDiff,Nat.reduceSub,Nat.reduceAdd,Int.reduceToNat,Nat.reducePow,Int.reducePow,Int.reduceLE,Int.reduceLT,IntKind.bits,Hq,Hr,cl,HI,p1,ah0,rn,jB]
def b7 (a:Nat):Nat:=a / 144115188075855872
def cg (a:Nat):Nat:=if b7 a % 2=0 then a - b7 a*144115188075855872 else (b7 a+1)*144115188075855872 - a
def qb (a:Nat):D:= .agg [.int .i64 (b7 a),.int .i64 (b6 (cg a)),.int .i64 (a5 (cg a))]
def pS:bq where
 pre:=fun ds=>∃(K:Int) (Q:Nat),ds=[cl K Q]∧Q≤60
 res:=fun ds=>match ds with
  |[.agg [.int _ K,.int _ Q]]=>qb (an K Q.toNat)
  |_=> .nilp
def pT:bq where
 pre:=fun ds=>∃e:Int,ds=[.int .i64 e]∧0≤e∧e≤7
 res:=fun ds=>match ds with
  |[.int _ e]=> .ep [.bool (decide (e=1∨e=2∨e=5∨e=6)),.bool (decide (2≤e∧e≤5)),.bool (decide (4≤e))]
  |_=> .nilp
theorem s0 {a:Nat} (h:a<1152921504606846976):b7 a≤7:=by unfold b7;omega
theorem u9 (a:Nat):cg a≤144115188075855872:=by unfold cg b7;split<;>omega
theorem UQ (e:Nat) (h:e≤8):an (-(e:Int)) 3=(1152921504606846976 - e*144115188075855872) % 1152921504606846976:=by
 unfold an
 have:((2^(60 - 3):Nat):Int)=144115188075855872:=by decide
 rw[this];omega
theorem aca {a:Nat} (h:a<1152921504606846976) (he:b7 a % 2=0):(a+an (-(b7 a:Int)) 3) % 1152921504606846976=cg a:=by
 have h1:=s0 h
 rw[UQ _ (by omega)]
 unfold cg
 rw[if_pos he]
 unfold b7 at*
 omega
theorem acV {a:Nat} (h:a<1152921504606846976) (he:¬b7 a % 2=0):(1152921504606846976 - (a+an (-((b7 a+1:Nat):Int)) 3) % 1152921504606846976) % 1152921504606846976=cg a:=by
 have h1:=s0 h
 rw[UQ _ (by omega)]
 unfold cg
 rw[if_neg he]
 unfold b7 at*
 omega
theorem akI {a:Nat} (h:a<1152921504606846976) (al:3≤a5 a):b6 a / 2^(a5 a - 3)=b7 a:=by
 have h1:=sZ h
 have h2:=sY a
 unfold b7
 rw[show (144115188075855872:Nat)=2^(60 - a5 a)*2^(a5 a - 3)by rw[←Nat.pow_add,show 60 - a5 a+(a5 a - 3)=57 by omega],←Nat.div_div_eq_div_mul]
 congr 1
 exact(Nat.div_eq_of_eq_mul_left (Nat.two_pow_pos _) h1.symm).symm
theorem CX {a:Nat} (h:a<1152921504606846976) (al:a5 a≤3):b6 a*2^(3 - a5 a)=b7 a:=by
 rw[u1 h al (by omega)];rfl
theorem afG (Γ:Env) (ds:List D) (h:pT.pre ds):bH Γ Hc Hd ds fun d=>d=pT.res ds:=by
 obtain⟨e,rfl,ah1,he⟩:=h
 have:e=0∨e=1∨e=2∨e=3∨e=4∨e=5∨e=6∨e=7:=by omega
 have bz:((8:Nat):Int)=8:=rfl
 have al:((3:Nat):Int)=3:=rfl
 rcases this with rfl|rfl|rfl|rfl|rfl|rfl|rfl|rfl<;>
  (simp (maxSteps:=2000000) only[↓ak,aj,↓reduceIte,reduceCtorEq,Nat.reduceEqDiff,Nat.reduceLeDiff,Nat.reduceSub,Nat.reduceAdd,Int.reduceToNat,Nat.reducePow,Int.reducePow,Int.reduceLE,Int.reduceLT,IntKind.bits,Hc,Hd,al,pT,Int.reduceGT,Nat.reduceMul,bz,ag.cC,List.map_cons,List.map_nil,List.drop_succ_cons,List.drop_zero,List.take_succ_cons,List.take_zero,or_self,or_true,true_or,Int.reduceEq]<;>decide)
theorem S1 (e:Nat):rn.res [.int .i64 e]= .agg [.int .i64 (b6 (an (-(e:Int)) 3)),.int .i64 (a5 (an (-(e:Int)) 3))]:=rfl
theorem S2 (K:Int) (Q:Nat) (L:Int) (R:Nat):oJ.res [.agg [.int .i64 K,.int .i64 Q],.agg [.int .i64 L,.int .i64 R]]= .agg [.int .i64 (b6 ((an K Q+an L R) % 1152921504606846976)),.int .i64 (a5 ((an K Q+an L R) % 1152921504606846976))]:=by simp only[oJ,Int.toNat_natCast];rfl
def tk (k q:Int) (s:St):Prop:=s.af 2= .box 2 0∧s.aw 2=some ⟨false,false,.cells [.d (.int .i64 0),.d (.int .i64 0),.d (.int .i64 0)]⟩∧s.af 3= .box 3 0∧s.aw 3=some ⟨false,false,.cells [.d (.int .i64 k),.d (.int .i64 q)]⟩
theorem afH (Γ:Env) (rm:Γ.has 111 mD) (S3:Γ.has 148 rn) (S4:Γ.has 150 oJ) (HI:Γ.has 149 mE) (ds:List D) (h:pS.pre ds):bH Γ G8 G9 ds fun d=>d=pS.res ds:=by
 obtain⟨K,Q,rfl,cn⟩:=h
 have cq:pS.res [cl K Q]=qb (an K Q):=by simp only[pS,cl,Int.toNat_natCast]
 rw[cq]
 have p1:=i111 K cn
 have bP:=vv K Q
 obtain⟨a,a2⟩:∃a,a=an K Q:=⟨_,rfl⟩
 have ck:a<1152921504606846976:=a2▸ig K Q
 have akH:a5 a≤60:=sY a
 rw[←a2]at bP⊢
 have dQ:=s0 ck
 obtain⟨k,q,ah2⟩:∃k q,(k=if a5 a<3 then b6 a*2^(3 - a5 a)else b6 a)∧q=max (a5 a) 3:=⟨_,_,rfl,rfl⟩
 obtain⟨ad,aZ⟩:=ah2
 have ek:k / 2^(q - 3)=b7 a:=by
  rw[ad,aZ]
  split
  ·rename_i h;rw[CX ck (by omega),show max (a5 a) 3 - 3=0 by omega,Nat.pow_zero,Nat.div_one]
  ·rename_i h;rw[show max (a5 a) 3=a5 a by omega];exact akI ck (by omega)
 have YT:an k q=a:=by
  rw[ad,aZ,FH]
  split
  ·rename_i h;rw[CX ck (by omega),show max (a5 a) 3=3 by omega]
   have:=u1 ck (q:=3) (by omega) (by omega)
   have h2:=CX ck (by omega:a5 a≤3)
   have al:=sZ ck
   rw[show 60 - a5 a=(3 - a5 a)+57 by omega,Nat.pow_add,←Nat.mul_assoc,h2]at al
   omega
  ·rename_i h;rw[show max (a5 a) 3=a5 a by omega,←FH,vu ck]
 have alu:k<1152921504606846976:=by
  rw[ad];split
  ·rw[CX ck (by omega)];omega
  ·exact Bi ck
 have lP:3≤q:=by omega
 have mO:q≤60:=by omega
 rw[fP]
 unfold G8 G9
 refine bX (fun s=>s.af 1= .box 1 0∧s.aw 1=some ⟨false,false,.cells [.d (.int .i64 K),.d (.int .i64 Q)]⟩∧s.af 2= .box 2 0∧s.aw 2=some ⟨false,false,.cells [.d (.int .i64 0),.d (.int .i64 0),.d (.int .i64 0)]⟩) ?_ ?_
 ·simp (maxSteps:=2000000) only[↓ak,aj,↓reduceIte,reduceCtorEq,Nat.reduceEqDiff,Nat.reduceLeDiff,Nat.reduceSub,Nat.reduceAdd,Int.reduceToNat,Nat.reducePow,Int.reducePow,Int.reduceLE,Int.reduceLT,IntKind.bits,cl]
 rintro s ⟨h1,cf,h2,aY⟩
 refine bX (fun s=>tk (b6 a) (a5 a) s) ?_ ?_
 ·simp (maxSteps:=2000000) only[↓ak,aj,↓reduceIte,reduceCtorEq,Nat.reduceEqDiff,Nat.reduceLeDiff,Nat.reduceSub,Nat.reduceAdd,Int.reduceToNat,Nat.reducePow,Int.reducePow,Int.reduceLE,Int.reduceLT,IntKind.bits,h1,cf,h2,aY,rm,p1,bP,tk]
 rintro s ⟨h2,aY,al,aW⟩
 by_cases h0:a=0
 ·subst h0
  have e9:((b6 0:Nat):Int)=0:=by rw[pC.1];rfl
  have gY:((a5 0:Nat):Int)=0:=by rw[pC.2];rfl
  have a1:((b7 0:Nat):Int)=0:=rfl
  have a6:cg 0=0:=rfl
  rw[e9,gY]at aW
  refine bX (fun s=>tk 0 0 s) ?_ ?_
  ·simp (maxSteps:=2000000) only[↓ak,aj,↓reduceIte,reduceCtorEq,Nat.reduceEqDiff,Nat.reduceLeDiff,Nat.reduceSub,Nat.reduceAdd,Int.reduceToNat,Nat.reducePow,Int.reducePow,Int.reduceLE,Int.reduceLT,IntKind.bits,h2,aY,al,aW,tk,Int.reduceSub,Int.reduceGT,beq_self_eq_true,Bool.and_self,Bool.not_true]
   ((repeat' apply And.intro)<;>first|assumption|with_reducible rfl|omega|(simp only[aG];omega)|exact⟨_,rfl⟩|exact⟨_,_,_,rfl⟩|exact⟨_,_,_,_,_,_,rfl⟩)
  rintro s ⟨h2,aY,al,aW⟩
  simp (maxSteps:=2000000) only[↓ak,aj,↓reduceIte,reduceCtorEq,Nat.reduceEqDiff,Nat.reduceLeDiff,Nat.reduceSub,Nat.reduceAdd,Int.reduceToNat,Nat.reducePow,Int.reducePow,Int.reduceLE,Int.reduceLT,IntKind.bits,h2,aY,al,aW,qb,a1,a6,e9,gY,beq_self_eq_true,Bool.and_self]
 have alO:1≤a5 a:=by unfold a5;rw[if_neg h0];have:=B0 h0 ck;omega
 have bU:((a5 a:Int)==0)=false:=beq_false_of_ne (by omega)
 have UR:((q:Int)==0)=false:=beq_false_of_ne (by omega)
 refine bX (fun s=>tk k q s) ?_ ?_
 ·by_cases bM:a5 a<3
  ·have bf:(3:Int) - a5 a=((3 - a5 a:Nat):Int):=by omega
   have bd:((3 - a5 a:Nat):Int)>0:=by omega
   have ev:3 - a5 a≤64:=by omega
   have ec:(b6 a:Int)*2^(3 - a5 a)=(k:Int):=by rw[ad,if_pos bM,Int.natCast_mul];exact_mod_cast rfl
   have ed:(q:Int)=3:=by omega
   simp (maxSteps:=2000000) only[↓ak,aj,↓reduceIte,reduceCtorEq,Nat.reduceEqDiff,Nat.reduceLeDiff,Nat.reduceSub,Nat.reduceAdd,Int.reduceToNat,Nat.reducePow,Int.reducePow,Int.reduceLE,Int.reduceLT,IntKind.bits,h2,aY,al,aW,tk,bf,bd,ev,ec,ed,bU,Int.toNat_natCast,Bool.and_false,Bool.not_false]
   ((repeat' apply And.intro)<;>first|assumption|with_reducible rfl|omega|(simp only[aG];omega)|exact⟨_,rfl⟩|exact⟨_,_,_,rfl⟩|exact⟨_,_,_,_,_,_,rfl⟩)
  ·have bd:¬((3:Int) - q>0):=by omega
   have ec:(b6 a:Int)=(k:Int):=by rw[ad,if_neg bM]
   have ed:(a5 a:Int)=q:=by omega
   simp (maxSteps:=2000000) only[↓ak,aj,↓reduceIte,reduceCtorEq,Nat.reduceEqDiff,Nat.reduceLeDiff,Nat.reduceSub,Nat.reduceAdd,Int.reduceToNat,Nat.reducePow,Int.reducePow,Int.reduceLE,Int.reduceLT,IntKind.bits,h2,aY,al,aW,tk,bd,ec,ed]
   ((repeat' apply And.intro)<;>first|assumption|with_reducible rfl|omega|(simp only[aG];omega)|exact⟨_,rfl⟩|exact⟨_,_,_,rfl⟩|exact⟨_,_,_,_,_,_,rfl⟩)
 rintro s ⟨h2,aY,al,aW⟩
 have s1:(q:Int) - 3=((q - 3:Nat):Int):=by omega
 have gw:q - 3≤64:=by omega
 have fd:(k:Int).fdiv (2^(q - 3))=(b7 a:Int):=by
  rw[Int.fdiv_eq_ediv_of_nonneg _ (Int.le_of_lt (Int.pow_pos (by decide))),←ek]
  exact_mod_cast rfl
 have YU:ji .i64 (b7 a:Int) 1=((b7 a % 2:Nat):Int):=(w6 1 (by omega) (b7 a):ji .i64 (b7 a:Int) ((2^1 - 1:Nat):Int)=_).trans (by omega)
 by_cases he:b7 a % 2=0
 ·have ar:(((b7 a % 2:Nat):Int)==0)=true:=by rw[he];rfl
  have ps:rn.pre [.int .i64 (b7 a)]:=⟨b7 a,rfl,by omega⟩
  have rs:=S1 (b7 a)
  obtain⟨x,ah⟩:∃x,x=an (-(b7 a:Int)) 3:=⟨_,rfl⟩
  have cP:x<1152921504606846976:=ah▸ig _ _
  have vP:=aca ck he
  rw[←ah]at rs vP
  have pa:oJ.pre [.agg [.int .i64 k,.int .i64 q],.agg [.int .i64 (b6 x),.int .i64 (a5 x)]]:=⟨k,q,b6 x,a5 x,rfl,mO,sY x⟩
  have jC:=S2 k q (b6 x) (a5 x)
  rw[YT,vu cP,vP]at jC
  simp (maxSteps:=2000000) only[↓ak,aj,↓reduceIte,reduceCtorEq,Nat.reduceEqDiff,Nat.reduceLeDiff,Nat.reduceSub,Nat.reduceAdd,Int.reduceToNat,Nat.reducePow,Int.reducePow,Int.reduceLE,Int.reduceLT,IntKind.bits,h2,aY,al,aW,UR,Bool.and_false,s1,gw,Int.toNat_natCast,fd,YU,ar,S3,ps,rs,S4,pa,jC,qb]
  ((repeat' apply And.intro)<;>first|assumption|with_reducible rfl|omega|(simp only[aG];omega)|exact⟨_,rfl⟩|exact⟨_,_,_,rfl⟩|exact⟨_,_,_,_,_,_,rfl⟩)
 ·have ar:(((b7 a % 2:Nat):Int)==0)=false:=beq_false_of_ne (by omega)
  have ps:rn.pre [.int .i64 ((b7 a+1:Nat):Int)]:=⟨b7 a+1,rfl,by omega⟩
  have rs:=S1 (b7 a+1)
  obtain⟨x,ah⟩:∃x,x=an (-((b7 a+1:Nat):Int)) 3:=⟨_,rfl⟩
  have cP:x<1152921504606846976:=ah▸ig _ _
  have vP:=acV ck he
  rw[←ah]at rs vP
  have pa:oJ.pre [.agg [.int .i64 k,.int .i64 q],.agg [.int .i64 (b6 x),.int .i64 (a5 x)]]:=⟨k,q,b6 x,a5 x,rfl,mO,sY x⟩
  have jC:=S2 k q (b6 x) (a5 x)
  rw[YT,vu cP]at jC
  obtain⟨y,hy⟩:∃y,y=(a+x) % 1152921504606846976:=⟨_,rfl⟩
  have ga:y<1152921504606846976:=by omega
  rw[←hy]at jC vP
  have iX:mE.pre [.agg [.int .i64 (b6 y),.int .i64 (a5 y)]]:=⟨b6 y,a5 y,rfl,sY y,by have:=Bi ga;simp only[aG];omega⟩
  have hh:=S0 (b6 y) (a5 y)
  rw[adF,vu ga,vP]at hh
  have ah3:(b7 a:Int)+1=((b7 a+1:Nat):Int):=by omega
  simp (maxSteps:=2000000) only[↓ak,aj,↓reduceIte,reduceCtorEq,Nat.reduceEqDiff,Nat.reduceLeDiff,Nat.reduceSub,Nat.reduceAdd,Int.reduceToNat,Nat.reducePow,Int.reducePow,Int.reduceLE,Int.reduceLT,IntKind.bits,h2,aY,al,aW,UR,Bool.and_false,s1,gw,Int.toNat_natCast,fd,YU,ar,ah3,S3,ps,rs,S4,pa,jC,HI,iX,hh,qb]
  ((repeat' apply And.intro)<;>first|assumption|with_reducible rfl|omega|(simp only[aG];omega)|exact⟨_,rfl⟩|exact⟨_,_,_,rfl⟩|exact⟨_,_,_,_,_,_,rfl⟩)
def nZ:bq where
 pre:=fun ds=>∃x:a3,ds=[aR x]
 res:=fun ds=>match ds with
  |[p]=> .int .i64 (gD (dO p))
  |_=> .nilp
theorem ah4 (Γ:Env) (f98:Γ.fn 98=some k4) (rT:Γ.mt 98=none) (ds:List D) (h:nZ.pre ds):bH Γ yw yx ds fun d=>d=nZ.res ds:=by
 obtain⟨x,rfl⟩:=h
 have o8:k4.own=false:=rfl
 have o9:k4.pre [.agg [.bool x.neg,.ints .i64 (ai x.m),.int .i64 x.e]]:=⟨_,_,_,rfl⟩
 by_cases h0:x.m=0
 ·have ah:gD x=0:=by unfold gD;rw[if_pos h0]
  have n7:k4.res [.agg [.bool x.neg,.ints .i64 (ai x.m),.int .i64 x.e]]= .bool true:=by rw[EU,decide_eq_true h0]
  simp (maxSteps:=2000000) only[↓ak,aj,↓reduceIte,reduceCtorEq,Nat.reduceEqDiff,Nat.reduceLeDiff,Nat.reduceSub,Nat.reduceAdd,Int.reduceToNat,Nat.reducePow,Int.reducePow,Int.reduceLE,Int.reduceLT,IntKind.bits,yw,yx,nZ,aR,b0,ah,f98,rT,o8,o9,n7]
 ·have n7:k4.res [.agg [.bool x.neg,.ints .i64 (ai x.m),.int .i64 x.e]]= .bool false:=by rw[EU,decide_eq_false h0]
  cases aH:x.neg with
  |true=>
   have ah:gD x= -1:=by unfold gD;rw[if_neg h0,aH];rfl
   have hy:=b0 x
   rw[aH]at hy o9 n7
   simp (maxSteps:=2000000) only[↓ak,aj,↓reduceIte,reduceCtorEq,Nat.reduceEqDiff,Nat.reduceLeDiff,Nat.reduceSub,Nat.reduceAdd,Int.reduceToNat,Nat.reducePow,Int.reducePow,Int.reduceLE,Int.reduceLT,IntKind.bits,yw,yx,nZ,aR,aH,hy,ah,f98,rT,o8,o9,n7]
  |false=>
   have ah:gD x=1:=by unfold gD;rw[if_neg h0,aH];rfl
   have hy:=b0 x
   rw[aH]at hy o9 n7
   simp (maxSteps:=2000000) only[↓ak,aj,↓reduceIte,reduceCtorEq,Nat.reduceEqDiff,Nat.reduceLeDiff,Nat.reduceSub,Nat.reduceAdd,Int.reduceToNat,Nat.reducePow,Int.reducePow,Int.reduceLE,Int.reduceLT,IntKind.bits,yw,yx,nZ,aR,aH,hy,ah,f98,rT,o8,o9,n7]
theorem PI {Γ:Env} {c:bk} {a b:au} {Q:eg→St→Prop} {σ:St} (h:σ.aT c= .d (.bool false)) (k:bZ Γ b Q σ):bZ Γ (.cond c a b) Q σ:=by
 simp only[bZ,h]
 exact⟨fun e=>(by cases e),fun _=>k⟩
def k5:bq where
 pre:=fun ds=>∃x y:a3,ds=[aR x,aR y]∧cv x∧cv y
 res:=fun ds=>match ds with
  |[p,q]=>aR (dR (dO p) (dO q))
  |_=> .nilp
theorem ah5 (Γ:Env) (f87:Γ.fn 87=some eQ) (k3:Γ.mt 87=none) (f106:Γ.fn 106=some vt) (afI:Γ.mt 106=none)
 (f85:Γ.fn 85=some jv) (yS:Γ.mt 85=none) (f107:Γ.fn 107=some kf) (S5:Γ.mt 107=none) (f98:Γ.fn 98=some k4) (rT:Γ.mt 98=none)
 (f64:Γ.fn 64=some gT) (m64:Γ.mt 64=none)
 (ds:List D) (h:k5.pre ds):bH Γ Jq Jr ds fun d=>d=k5.res ds:=by
 obtain⟨x,y,rfl,ah,hy⟩:=h
 have ex:=iM ah
 have sf:=iM hy
 have cP:=ie ah
 have ga:=ie hy
 have aw:=kI ah
 have Lh:=kI hy
 have o8:k4.own=false:=rfl
 have o9:∀z:a3,k4.pre [.agg [.bool z.neg,.ints .i64 (ai z.m),.int .i64 z.e]]:=fun z=>⟨_,_,_,rfl⟩
 have n7:∀z:a3,k4.res [.agg [.bool z.neg,.ints .i64 (ai z.m),.int .i64 z.e]]= .bool (decide (z.m=0)):=fun z=>EU z
 have CY:gT.own=false:=rfl
 have rU:∀z:a3,cv z→gT.pre [.agg [.bool z.neg,.ints .i64 (ai z.m),.int .i64 z.e],.int .i64 0]:=fun z bg=>⟨z,0,rfl,bg,by omega,by omega⟩
 have US:∀z:a3,cv z→gT.res [.agg [.bool z.neg,.ints .i64 (ai z.m),.int .i64 z.e],.int .i64 0]= .agg [.bool z.neg,.ints .i64 (ai z.m),.int .i64 z.e]:=fun z bg=>by
  simp only[gT,b0,zM bg.1,aR,a7]
 rw[fP]
 unfold Jq Jr
 refine cc (fun s=>s.af 2= .box 2 0∧s.aw 2=some ⟨false,false,.cells [.d (.bool x.neg),.d (.ints .i64 (ai x.m)),.d (.int .i64 x.e)]⟩∧s.af 3= .box 3 0∧s.aw 3=some ⟨false,false,.cells [.d (.bool y.neg),.d (.ints .i64 (ai y.m)),.d (.int .i64 y.e)]⟩∧s.af 4= .box 4 0∧(∃bs bf bd,s.aw 4=some ⟨false,false,.cells [bs,bf,bd]⟩)∧s.aw 5=none∧s.aw 6=none) ?_ ?_
 ·simp (maxSteps:=2000000) only[↓ak,aj,↓reduceIte,reduceCtorEq,Nat.reduceEqDiff,Nat.reduceLeDiff,Nat.reduceSub,Nat.reduceAdd,Int.reduceToNat,Nat.reducePow,Int.reducePow,Int.reduceLE,Int.reduceLT,IntKind.bits,aR]
  exact⟨_,_,_,rfl⟩
 rintro s ⟨h2,aY,al,aW,aE,⟨bs,bf,bd,aU⟩,a9,a0⟩
 refine cc (fun s=>s.af 2= .box 2 0∧s.aw 2=some ⟨false,false,.cells [.d (.bool x.neg),.d (.ints .i64 (ai x.m)),.d (.int .i64 x.e)]⟩∧s.af 3= .box 3 0∧s.aw 3=some ⟨false,false,.cells [.d (.bool y.neg),.d (.ints .i64 (ai y.m)),.d (.int .i64 y.e)]⟩∧s.af 5= .box 5 0∧s.aw 5=some ⟨false,false,.cells [.d (.bool x.neg),.d (.ints .i64 (ai x.m)),.d (.int .i64 x.e)]⟩∧s.af 6= .box 6 0∧s.aw 6=some ⟨false,false,.cells [.d (.bool y.neg),.d (.ints .i64 (ai y.m)),.d (.int .i64 y.e)]⟩∧s.af 4= .box 4 0∧(∃bs bf bd,s.aw 4=some ⟨false,false,.cells [bs,bf,bd]⟩)) ?_ ?_
 ·simp (maxSteps:=2000000) only[↓ak,aj,↓reduceIte,reduceCtorEq,Nat.reduceEqDiff,Nat.reduceLeDiff,Nat.reduceSub,Nat.reduceAdd,Int.reduceToNat,Nat.reducePow,Int.reducePow,Int.reduceLE,Int.reduceLT,IntKind.bits,h2,aY,al,aW,aE,aU,a9,a0,Nat.reduceBeqDiff,Nat.reduceBneDiff]
  exact⟨_,_,_,rfl⟩
 clear h2 aY al aW aE aU a9 a0
 rintro s ⟨h2,aY,al,aW,aI,a9,aM,a0,aE,bs,bf,bd,aU⟩
 rw[jF]
 by_cases h0:x.m=0
 ·have aq:dR x y=y:=by unfold dR;rw[if_pos h0]
  have aC:=decide_eq_true h0
  simp (maxSteps:=2000000) only[↓ak,aj,↓reduceIte,reduceCtorEq,Nat.reduceEqDiff,Nat.reduceLeDiff,Nat.reduceSub,Nat.reduceAdd,Int.reduceToNat,Nat.reducePow,Int.reducePow,Int.reduceLE,Int.reduceLT,IntKind.bits,k5,aR,b0,aq,h2,aY,al,aW,aI,a9,aM,a0,aE,aU,f98,rT,o8,o9,n7,aC,f64,m64,CY,rU y hy,US y hy]
 have Ce:=decide_eq_false h0
 refine cc (fun s=>s.af 71= .d (.bool false)∧s.af 2= .box 2 0∧s.aw 2=some ⟨false,false,.cells [.d (.bool x.neg),.d (.ints .i64 (ai x.m)),.d (.int .i64 x.e)]⟩∧s.af 3= .box 3 0∧s.aw 3=some ⟨false,false,.cells [.d (.bool y.neg),.d (.ints .i64 (ai y.m)),.d (.int .i64 y.e)]⟩∧s.af 5= .box 5 0∧s.aw 5=some ⟨false,false,.cells [.d (.bool x.neg),.d (.ints .i64 (ai x.m)),.d (.int .i64 x.e)]⟩∧s.af 6= .box 6 0∧s.aw 6=some ⟨false,false,.cells [.d (.bool y.neg),.d (.ints .i64 (ai y.m)),.d (.int .i64 y.e)]⟩∧s.af 4= .box 4 0∧(∃bs bf bd,s.aw 4=some ⟨false,false,.cells [bs,bf,bd]⟩)) ?_ ?_
 ·simp (maxSteps:=2000000) only[↓ak,aj,↓reduceIte,reduceCtorEq,Nat.reduceEqDiff,Nat.reduceLeDiff,Nat.reduceSub,Nat.reduceAdd,Int.reduceToNat,Nat.reducePow,Int.reducePow,Int.reduceLE,Int.reduceLT,IntKind.bits,h2,aY,al,aW,aI,a9,aM,a0,aE,aU,f98,rT,o8,o9,n7,Ce]
  exact⟨_,_,_,rfl⟩
 clear h2 aY al aW aI a9 aM a0 aE aU
 rintro s ⟨UT,h2,aY,al,aW,aI,a9,aM,a0,aE,bs,bf,bd,aU⟩
 refine PI UT ?_
 by_cases h1:y.m=0
 ·have aq:dR x y=x:=by unfold dR;rw[if_neg h0,if_pos h1]
  have aC:=decide_eq_true h1
  simp (maxSteps:=2000000) only[↓ak,aj,↓reduceIte,reduceCtorEq,Nat.reduceEqDiff,Nat.reduceLeDiff,Nat.reduceSub,Nat.reduceAdd,Int.reduceToNat,Nat.reducePow,Int.reducePow,Int.reduceLE,Int.reduceLT,IntKind.bits,k5,aR,b0,aq,h2,aY,al,aW,aI,a9,aM,a0,aE,aU,f98,rT,o8,o9,n7,aC,f64,m64,CY,rU x ah,US x ah]
 have iv:=decide_eq_false h1
 refine cc (fun s=>s.af 76= .d (.bool false)∧s.af 2= .box 2 0∧s.aw 2=some ⟨false,false,.cells [.d (.bool x.neg),.d (.ints .i64 (ai x.m)),.d (.int .i64 x.e)]⟩∧s.af 3= .box 3 0∧s.aw 3=some ⟨false,false,.cells [.d (.bool y.neg),.d (.ints .i64 (ai y.m)),.d (.int .i64 y.e)]⟩∧s.af 5= .box 5 0∧s.aw 5=some ⟨false,false,.cells [.d (.bool x.neg),.d (.ints .i64 (ai x.m)),.d (.int .i64 x.e)]⟩∧s.af 6= .box 6 0∧s.aw 6=some ⟨false,false,.cells [.d (.bool y.neg),.d (.ints .i64 (ai y.m)),.d (.int .i64 y.e)]⟩∧s.af 4= .box 4 0∧(∃bs bf bd,s.aw 4=some ⟨false,false,.cells [bs,bf,bd]⟩)) ?_ ?_
 ·simp (maxSteps:=2000000) only[↓ak,aj,↓reduceIte,reduceCtorEq,Nat.reduceEqDiff,Nat.reduceLeDiff,Nat.reduceSub,Nat.reduceAdd,Int.reduceToNat,Nat.reducePow,Int.reducePow,Int.reduceLE,Int.reduceLT,IntKind.bits,h2,aY,al,aW,aI,a9,aM,a0,aE,aU,f98,rT,o8,o9,n7,iv]
  exact⟨_,_,_,rfl⟩
 clear h2 aY al aW aI a9 aM a0 aE aU UT
 rintro s ⟨UU,h2,aY,al,aW,aI,a9,aM,a0,aE,bs,bf,bd,aU⟩
 refine PI UU ?_
 obtain⟨E,dQ⟩:∃E,E=min x.e y.e:=⟨_,rfl⟩
 have hq:(if y.e<x.e then y.e else x.e)=E:=by split<;>omega
 obtain⟨X,hF⟩:∃X,X=x.m*2^(x.e - E).toNat:=⟨_,rfl⟩
 obtain⟨Y,hg⟩:∃Y,Y=y.m*2^(y.e - E).toNat:=⟨_,rfl⟩
 have akJ:bc X≤200000:=by rw[hF,j3 h0];omega
 have ah6:bc Y≤200000:=by rw[hg,j3 h1];omega
 have akK:=gy X
 have akL:=gy Y
 refine cc (fun s=>s.af 7= .d (.int .i64 E)∧s.af 2= .box 2 0∧s.aw 2=some ⟨false,false,.cells [.d (.bool x.neg),.d (.ints .i64 (ai x.m)),.d (.int .i64 x.e)]⟩∧s.af 3= .box 3 0∧s.aw 3=some ⟨false,false,.cells [.d (.bool y.neg),.d (.ints .i64 (ai y.m)),.d (.int .i64 y.e)]⟩∧s.af 5= .box 5 0∧s.aw 5=some ⟨false,false,.cells [.d (.bool x.neg),.d (.ints .i64 (ai x.m)),.d (.int .i64 x.e)]⟩∧s.af 6= .box 6 0∧s.aw 6=some ⟨false,false,.cells [.d (.bool y.neg),.d (.ints .i64 (ai y.m)),.d (.int .i64 y.e)]⟩∧s.af 4= .box 4 0∧(∃bs bf bd,s.aw 4=some ⟨false,false,.cells [bs,bf,bd]⟩)) ?_ ?_
 ·simp (maxSteps:=2000000) only[↓ak,aj,↓reduceIte,reduceCtorEq,Nat.reduceEqDiff,Nat.reduceLeDiff,Nat.reduceSub,Nat.reduceAdd,Int.reduceToNat,Nat.reducePow,Int.reducePow,Int.reduceLE,Int.reduceLT,IntKind.bits,h2,aY,al,aW,aI,a9,aM,a0,aE,aU,hq]
  exact⟨_,_,_,rfl⟩
 clear h2 aY al aW aI a9 aM a0 aE aU UU
 rintro s ⟨a4,h2,aY,al,aW,aI,a9,aM,a0,aE,bs,bf,bd,aU⟩
 refine cc (fun s=>s.af 9= .d (.ints .i64 (ai Y))∧s.af 8= .d (.ints .i64 (ai X))∧s.af 7= .d (.int .i64 E)∧s.af 2= .box 2 0∧s.aw 2=some ⟨false,false,.cells [.d (.bool x.neg),.d (.ints .i64 (ai x.m)),.d (.int .i64 x.e)]⟩∧s.af 3= .box 3 0∧s.aw 3=some ⟨false,false,.cells [.d (.bool y.neg),.d (.ints .i64 (ai y.m)),.d (.int .i64 y.e)]⟩∧s.af 5= .box 5 0∧s.aw 5=some ⟨false,false,.cells [.d (.bool x.neg),.d (.ints .i64 (ai x.m)),.d (.int .i64 x.e)]⟩∧s.af 6= .box 6 0∧s.aw 6=some ⟨false,false,.cells [.d (.bool y.neg),.d (.ints .i64 (ai y.m)),.d (.int .i64 y.e)]⟩∧s.af 4= .box 4 0∧(∃bs bf bd,s.aw 4=some ⟨false,false,.cells [bs,bf,bd]⟩)) ?_ ?_
 ·simp (maxSteps:=2000000) only[↓ak,aj,↓reduceIte,reduceCtorEq,Nat.reduceEqDiff,Nat.reduceLeDiff,Nat.reduceSub,Nat.reduceAdd,Int.reduceToNat,Nat.reducePow,Int.reducePow,Int.reduceLE,Int.reduceLT,IntKind.bits,a4,h2,aY,al,aW,aI,a9,aM,a0,aE,aU,f106,afI,vt,b0,←hF,←hg]
  exact⟨⟨x,E,rfl,ah,by omega,by omega⟩,⟨y,E,rfl,hy,by omega,by omega⟩,_,_,_,rfl⟩
 clear h2 aY al aW aI a9 aM a0 aE aU a4
 rintro s ⟨bM,bz,a4,h2,aY,al,aW,aI,a9,aM,a0,aE,bs,bf,bd,aU⟩
 by_cases bB:x.neg=y.neg
 ·have ju:(x.neg==y.neg)=true:=by simpa using bB
  have aq:dR x y=mk x.neg (X+Y) E:=by unfold dR;rw[if_neg h0,if_neg h1,if_pos bB,←dQ,←hF,←hg]
  have we:=sw X Y
  have ls:=qV (n:=X+Y) (by omega)
  simp (maxSteps:=2000000) only[↓ak,aj,↓reduceIte,reduceCtorEq,Nat.reduceEqDiff,Nat.reduceLeDiff,Nat.reduceSub,Nat.reduceAdd,Int.reduceToNat,Nat.reducePow,Int.reducePow,Int.reduceLE,Int.reduceLT,IntKind.bits,k5,aR,b0,aq,bM,bz,a4,h2,aY,al,aW,aI,a9,aM,a0,aE,aU,f87,k3,eQ,f85,yS,jv,bO,ju]
  exact⟨⟨_,_,rfl,cN _,cN _,by omega,by omega⟩,⟨_,_,_,rfl,ls,by omega,by omega⟩⟩
 have ju:(x.neg==y.neg)=false:=by simpa using bB
 refine cc (fun s=>s.af 9= .d (.ints .i64 (ai Y))∧s.af 8= .d (.ints .i64 (ai X))∧s.af 7= .d (.int .i64 E)∧s.af 2= .box 2 0∧s.aw 2=some ⟨false,false,.cells [.d (.bool x.neg),.d (.ints .i64 (ai x.m)),.d (.int .i64 x.e)]⟩∧s.af 3= .box 3 0∧s.aw 3=some ⟨false,false,.cells [.d (.bool y.neg),.d (.ints .i64 (ai y.m)),.d (.int .i64 y.e)]⟩∧s.af 5= .box 5 0∧s.aw 5=some ⟨false,false,.cells [.d (.bool x.neg),.d (.ints .i64 (ai x.m)),.d (.int .i64 x.e)]⟩∧s.af 6= .box 6 0∧s.aw 6=some ⟨false,false,.cells [.d (.bool y.neg),.d (.ints .i64 (ai y.m)),.d (.int .i64 y.e)]⟩∧s.af 4= .box 4 0∧(∃bs bf bd,s.aw 4=some ⟨false,false,.cells [bs,bf,bd]⟩)) ?_ ?_
 ·simp (maxSteps:=2000000) only[↓ak,aj,↓reduceIte,reduceCtorEq,Nat.reduceEqDiff,Nat.reduceLeDiff,Nat.reduceSub,Nat.reduceAdd,Int.reduceToNat,Nat.reducePow,Int.reducePow,Int.reduceLE,Int.reduceLT,IntKind.bits,bM,bz,a4,h2,aY,al,aW,aI,a9,aM,a0,aE,aU,ju]
  exact⟨_,_,_,rfl⟩
 clear h2 aY al aW aI a9 aM a0 aE aU a4 bz bM
 rintro s ⟨bM,bz,a4,h2,aY,al,aW,aI,a9,aM,a0,aE,bs,bf,bd,aU⟩
 have os:kf.own=false:=rfl
 have ps:kf.pre [.ints .i64 (ai X),.ints .i64 (ai Y)]:=⟨X,Y,rfl,by omega,by omega⟩
 have B7:kf.pre [.ints .i64 (ai Y),.ints .i64 (ai X)]:=⟨Y,X,rfl,by omega,by omega⟩
 by_cases cu:Y≤X
 ·have aq:dR x y=mk x.neg (X - Y) E:=by unfold dR;rw[if_neg h0,if_neg h1,if_neg bB,←dQ,←hF,←hg,if_pos cu]
  have ls:=qV (n:=X - Y) (by have:=qO (show X - Y≤X by omega);omega)
  have rs:kf.res [.ints .i64 (ai X),.ints .i64 (ai Y)]= .ep [.ints .i64 (ai (X - Y)),.bool true]:=by simp only[kf,bO,if_neg (show¬X<Y by omega),a7]
  simp (maxSteps:=2000000) only[↓ak,aj,↓reduceIte,reduceCtorEq,Nat.reduceEqDiff,Nat.reduceLeDiff,Nat.reduceSub,Nat.reduceAdd,Int.reduceToNat,Nat.reducePow,Int.reducePow,Int.reduceLE,Int.reduceLT,IntKind.bits,k5,aR,b0,aq,bM,bz,a4,h2,aY,al,aW,aI,a9,aM,a0,aE,aU,f87,k3,eQ,f107,S5,os,ps,rs,bO]
  exact⟨_,_,_,rfl,ls,by omega,by omega⟩
 ·have aq:dR x y=mk y.neg (Y - X) E:=by unfold dR;rw[if_neg h0,if_neg h1,if_neg bB,←dQ,←hF,←hg,if_neg cu]
  have ls:=qV (n:=Y - X) (by have:=qO (show Y - X≤Y by omega);omega)
  have rs:kf.res [.ints .i64 (ai X),.ints .i64 (ai Y)]= .ep [.ints .i64 [],.bool false]:=by simp only[kf,bO,if_pos (show X<Y by omega)]
  have lS:kf.res [.ints .i64 (ai Y),.ints .i64 (ai X)]= .ep [.ints .i64 (ai (Y - X)),.bool true]:=by simp only[kf,bO,if_neg (show¬Y<X by omega),a7]
  simp (maxSteps:=2000000) only[↓ak,aj,↓reduceIte,reduceCtorEq,Nat.reduceEqDiff,Nat.reduceLeDiff,Nat.reduceSub,Nat.reduceAdd,Int.reduceToNat,Nat.reducePow,Int.reducePow,Int.reduceLE,Int.reduceLT,IntKind.bits,k5,aR,b0,aq,bM,bz,a4,h2,aY,al,aW,aI,a9,aM,a0,aE,aU,f87,k3,eQ,f107,S5,os,ps,B7,rs,lS,bO]
  exact⟨_,_,_,rfl,ls,by omega,by omega⟩
def jS:bq where
 pre:=fun ds=>∃x y:a3,ds=[aR x,aR y]∧cv x∧cv y
 res:=fun ds=>match ds with
  |[p,q]=> .int .i64 (hp (dO p) (dO q))
  |_=> .nilp
theorem ah7 (Γ:Env) (f67:Γ.fn 67=some mU) (yT:Γ.mt 67=none) (f66:Γ.fn 66=some k5) (yU:Γ.mt 66=none) (f58:Γ.fn 58=some nZ) (CZ:Γ.mt 58=none)
 (ds:List D) (h:jS.pre ds):bH Γ Ji Jj ds fun d=>d=jS.res ds:=by
 obtain⟨x,y,rfl,ah,hy⟩:=h
 simp (maxSteps:=2000000) only[↓ak,aj,↓reduceIte,reduceCtorEq,Nat.reduceEqDiff,Nat.reduceLeDiff,Nat.reduceSub,Nat.reduceAdd,Int.reduceToNat,Nat.reducePow,Int.reducePow,Int.reduceLE,Int.reduceLT,IntKind.bits,Ji,Jj,jS,aR,b0,f67,yT,mU,f66,yU,k5,f58,CZ,nZ,hp]
 exact⟨⟨y,rfl,hy⟩,⟨x,dI y,rfl,ah,kB hy⟩,⟨dR x (dI y),rfl⟩⟩
def jT:bq where
 pre:=fun ds=>∃x y:a3,ds=[aR x,aR y]∧cv x∧cv y
 res:=fun ds=>match ds with
  |[p,q]=>aR (dR (dO p) (dO q))
  |_=> .nilp
theorem UW (Γ:Env) (f76:Γ.fn 76=some dE) (oW:Γ.mt 76=none) (f91:Γ.fn 91=some h3) (UX:Γ.mt 91=none)
 (f89:Γ.fn 89=some hx) (ah8:Γ.mt 89=none) (f93:Γ.fn 93=some lV) (UY:Γ.mt 93=none) (f92:Γ.fn 92=some fh) (yK:Γ.mt 92=none)
 (ds:List D) (h:jT.pre ds):bH Γ yu yv ds fun d=>d=jT.res ds:=by
 obtain⟨x,y,rfl,ah,hy⟩:=h
 have ex:=iM ah
 have sf:=iM hy
 have cP:=ie ah
 have ga:=ie hy
 have aw:=kI ah
 have Lh:=kI hy
 by_cases h0:x.m=0
 ·have aq:dR x y=y:=by unfold dR;rw[if_pos h0]
  simp (maxSteps:=2000000) only[↓ak,aj,↓reduceIte,reduceCtorEq,Nat.reduceEqDiff,Nat.reduceLeDiff,Nat.reduceSub,Nat.reduceAdd,Int.reduceToNat,Nat.reducePow,Int.reducePow,Int.reduceLE,Int.reduceLT,IntKind.bits,yu,yv,jT,aR,b0,yM h0,aq]
 ·by_cases h1:y.m=0
  ·have aq:dR x y=x:=by unfold dR;rw[if_neg h0,if_pos h1]
   simp (maxSteps:=2000000) only[↓ak,aj,↓reduceIte,reduceCtorEq,Nat.reduceEqDiff,Nat.reduceLeDiff,Nat.reduceSub,Nat.reduceAdd,Int.reduceToNat,Nat.reducePow,Int.reducePow,Int.reduceLE,Int.reduceLT,IntKind.bits,yu,yv,jT,aR,b0,rN h0,yM h1,aq]
  ·obtain⟨E,dQ⟩:∃E,E=min x.e y.e:=⟨_,rfl⟩
   have hq:(if y.e<x.e then y.e else x.e)=E:=by split<;>omega
   obtain⟨X,hF⟩:∃X,X=x.m*2^(x.e - E).toNat:=⟨_,rfl⟩
   obtain⟨Y,hg⟩:∃Y,Y=y.m*2^(y.e - E).toNat:=⟨_,rfl⟩
   have akJ:bc X≤200000:=by rw[hF,j3 h0];omega
   have ah6:bc Y≤200000:=by rw[hg,j3 h1];omega
   have akK:=gy X
   have akL:=gy Y
   rw[fP]
   unfold yu yv
   refine cc (fun s=>s.af 2= .box 2 0∧s.af 3= .box 3 0∧s.af 4= .box 4 0∧s.aw 2=some ⟨false,false,.cells [.d (.bool x.neg),.d (.ints .i64 (ai x.m)),.d (.int .i64 x.e)]⟩∧s.aw 3=some ⟨false,false,.cells [.d (.bool y.neg),.d (.ints .i64 (ai y.m)),.d (.int .i64 y.e)]⟩∧(∃bs bf bd,s.aw 4=some ⟨false,false,.cells [bs,bf,bd]⟩)) ?_ ?_
   ·simp (maxSteps:=2000000) only[↓ak,aj,↓reduceIte,reduceCtorEq,Nat.reduceEqDiff,Nat.reduceLeDiff,Nat.reduceSub,Nat.reduceAdd,Int.reduceToNat,Nat.reducePow,Int.reducePow,Int.reduceLE,Int.reduceLT,IntKind.bits,aR]
    exact⟨_,_,_,rfl⟩
   rintro s ⟨h2,al,aE,aY,aW,bs,bf,bd,aU⟩
   refine cc (fun s=>s.af 2= .box 2 0∧s.af 3= .box 3 0∧s.af 4= .box 4 0∧s.aw 2=some ⟨false,false,.cells [.d (.bool x.neg),.d (.ints .i64 (ai x.m)),.d (.int .i64 x.e)]⟩∧s.aw 3=some ⟨false,false,.cells [.d (.bool y.neg),.d (.ints .i64 (ai y.m)),.d (.int .i64 y.e)]⟩∧(∃bs bf bd,s.aw 4=some ⟨false,false,.cells [bs,bf,bd]⟩)) ?_ ?_
   ·simp (maxSteps:=2000000) only[↓ak,aj,↓reduceIte,reduceCtorEq,Nat.reduceEqDiff,Nat.reduceLeDiff,Nat.reduceSub,Nat.reduceAdd,Int.reduceToNat,Nat.reducePow,Int.reducePow,Int.reduceLE,Int.reduceLT,IntKind.bits,h2,al,aE,aY,aW,aU,rN h0]
    exact⟨_,_,_,rfl⟩
   clear h2 al aE aY aW aU
   rintro s ⟨h2,al,aE,aY,aW,bs,bf,bd,aU⟩
   refine cc (fun s=>s.af 2= .box 2 0∧s.af 3= .box 3 0∧s.af 4= .box 4 0∧s.aw 2=some ⟨false,false,.cells [.d (.bool x.neg),.d (.ints .i64 (ai x.m)),.d (.int .i64 x.e)]⟩∧s.aw 3=some ⟨false,false,.cells [.d (.bool y.neg),.d (.ints .i64 (ai y.m)),.d (.int .i64 y.e)]⟩∧(∃bs bf bd,s.aw 4=some ⟨false,false,.cells [bs,bf,bd]⟩)) ?_ ?_
   ·simp (maxSteps:=2000000) only[↓ak,aj,↓reduceIte,reduceCtorEq,Nat.reduceEqDiff,Nat.reduceLeDiff,Nat.reduceSub,Nat.reduceAdd,Int.reduceToNat,Nat.reducePow,Int.reducePow,Int.reduceLE,Int.reduceLT,IntKind.bits,h2,al,aE,aY,aW,aU,rN h1]
    exact⟨_,_,_,rfl⟩
   clear h2 al aE aY aW aU
   rintro s ⟨h2,al,aE,aY,aW,bs,bf,bd,aU⟩
   refine cc (fun s=>s.af 5= .d (.int .i64 E)∧s.af 2= .box 2 0∧s.af 3= .box 3 0∧s.af 4= .box 4 0∧s.aw 2=some ⟨false,false,.cells [.d (.bool x.neg),.d (.ints .i64 (ai x.m)),.d (.int .i64 x.e)]⟩∧s.aw 3=some ⟨false,false,.cells [.d (.bool y.neg),.d (.ints .i64 (ai y.m)),.d (.int .i64 y.e)]⟩∧(∃bs bf bd,s.aw 4=some ⟨false,false,.cells [bs,bf,bd]⟩)) ?_ ?_
   ·simp (maxSteps:=2000000) only[↓ak,aj,↓reduceIte,reduceCtorEq,Nat.reduceEqDiff,Nat.reduceLeDiff,Nat.reduceSub,Nat.reduceAdd,Int.reduceToNat,Nat.reducePow,Int.reducePow,Int.reduceLE,Int.reduceLT,IntKind.bits,h2,al,aE,aY,aW,aU,hq]
    exact⟨_,_,_,rfl⟩
   clear h2 al aE aY aW aU
   rintro s ⟨aI,h2,al,aE,aY,aW,bs,bf,bd,aU⟩
   refine cc (fun s=>s.af 6= .d (.ints .i64 (ai X))∧s.af 5= .d (.int .i64 E)∧s.af 2= .box 2 0∧s.af 3= .box 3 0∧s.af 4= .box 4 0∧s.aw 2=some ⟨false,false,.cells [.d (.bool x.neg),.d (.ints .i64 (ai x.m)),.d (.int .i64 x.e)]⟩∧s.aw 3=some ⟨false,false,.cells [.d (.bool y.neg),.d (.ints .i64 (ai y.m)),.d (.int .i64 y.e)]⟩∧(∃bs bf bd,s.aw 4=some ⟨false,false,.cells [bs,bf,bd]⟩)) ?_ ?_
   ·simp (maxSteps:=2000000) only[↓ak,aj,↓reduceIte,reduceCtorEq,Nat.reduceEqDiff,Nat.reduceLeDiff,Nat.reduceSub,Nat.reduceAdd,Int.reduceToNat,Nat.reducePow,Int.reducePow,Int.reduceLE,Int.reduceLT,IntKind.bits,aI,h2,al,aE,aY,aW,aU,f91,UX,h3,bO,←hF]
    repeat (refine And.intro (by first|omega|(simp only[aG];omega)|(simp only[aG]at*;omega)|(simp only[List.length_append,List.length_cons,List.length_nil,List.length_set,bL];omega)) ?_)
    exact⟨⟨_,_,rfl,cN _,by omega,by omega⟩,_,_,_,rfl⟩
   clear aI h2 al aE aY aW aU
   rintro s ⟨aM,aI,h2,al,aE,aY,aW,bs,bf,bd,aU⟩
   refine cc (fun s=>s.af 7= .d (.ints .i64 (ai Y))∧s.af 6= .d (.ints .i64 (ai X))∧s.af 5= .d (.int .i64 E)∧s.af 2= .box 2 0∧s.af 3= .box 3 0∧s.af 4= .box 4 0∧s.aw 2=some ⟨false,false,.cells [.d (.bool x.neg),.d (.ints .i64 (ai x.m)),.d (.int .i64 x.e)]⟩∧s.aw 3=some ⟨false,false,.cells [.d (.bool y.neg),.d (.ints .i64 (ai y.m)),.d (.int .i64 y.e)]⟩∧(∃bs bf bd,s.aw 4=some ⟨false,false,.cells [bs,bf,bd]⟩)) ?_ ?_
   ·simp (maxSteps:=2000000) only[↓ak,aj,↓reduceIte,reduceCtorEq,Nat.reduceEqDiff,Nat.reduceLeDiff,Nat.reduceSub,Nat.reduceAdd,Int.reduceToNat,Nat.reducePow,Int.reducePow,Int.reduceLE,Int.reduceLT,IntKind.bits,aM,aI,h2,al,aE,aY,aW,aU,f91,UX,h3,bO,←hg]
    repeat (refine And.intro (by first|omega|(simp only[aG];omega)|(simp only[aG]at*;omega)|(simp only[List.length_append,List.length_cons,List.length_nil,List.length_set,bL];omega)) ?_)
    exact⟨⟨_,_,rfl,cN _,by omega,by omega⟩,_,_,_,rfl⟩
   clear aM aI h2 al aE aY aW aU
   rintro s ⟨a4,aM,aI,h2,al,aE,aY,aW,bs,bf,bd,aU⟩
   by_cases bB:x.neg=y.neg
   ·have ju:(x.neg==y.neg)=true:=by simpa using bB
    have aq:dR x y=mk x.neg (X+Y) E:=by unfold dR;rw[if_neg h0,if_neg h1,if_pos bB,←dQ,←hF,←hg]
    have we:=sw X Y
    have ls:=qV (n:=X+Y) (by omega)
    simp (maxSteps:=2000000) only[↓ak,aj,↓reduceIte,reduceCtorEq,Nat.reduceEqDiff,Nat.reduceLeDiff,Nat.reduceSub,Nat.reduceAdd,Int.reduceToNat,Nat.reducePow,Int.reducePow,Int.reduceLE,Int.reduceLT,IntKind.bits,jT,aR,b0,aq,a4,aM,aI,h2,al,aE,aY,aW,aU,f76,oW,dE,f89,ah8,hx,bO,ju]
    repeat (refine And.intro (by first|omega|(simp only[aG];omega)|(simp only[aG]at*;omega)|(simp only[List.length_append,List.length_cons,List.length_nil,List.length_set,bL];omega)) ?_)
    exact⟨⟨_,_,rfl,cN _,cN _,by omega,by omega⟩,⟨_,_,_,rfl,ls,by omega,by omega⟩⟩
   ·have ju:(x.neg==y.neg)=false:=by simpa using bB
    refine cc (fun s=>s.af 7= .d (.ints .i64 (ai Y))∧s.af 6= .d (.ints .i64 (ai X))∧s.af 5= .d (.int .i64 E)∧s.af 2= .box 2 0∧s.af 3= .box 3 0∧s.af 4= .box 4 0∧s.aw 2=some ⟨false,false,.cells [.d (.bool x.neg),.d (.ints .i64 (ai x.m)),.d (.int .i64 x.e)]⟩∧s.aw 3=some ⟨false,false,.cells [.d (.bool y.neg),.d (.ints .i64 (ai y.m)),.d (.int .i64 y.e)]⟩∧(∃bs bf bd,s.aw 4=some ⟨false,false,.cells [bs,bf,bd]⟩)) ?_ ?_
    ·simp (maxSteps:=2000000) only[↓ak,aj,↓reduceIte,reduceCtorEq,Nat.reduceEqDiff,Nat.reduceLeDiff,Nat.reduceSub,Nat.reduceAdd,Int.reduceToNat,Nat.reducePow,Int.reducePow,Int.reduceLE,Int.reduceLT,IntKind.bits,a4,aM,aI,h2,al,aE,aY,aW,aU,ju]
     exact⟨_,_,_,rfl⟩
    clear a4 aM aI h2 al aE aY aW aU
    rintro s ⟨a4,aM,aI,h2,al,aE,aY,aW,bs,bf,bd,aU⟩
    have hj:fh.pre [.ints .i64 (ai X),.ints .i64 (ai Y)]:=⟨_,_,rfl,⟨_,rfl⟩,⟨_,rfl⟩,by omega,by omega⟩
    have ah9:fh.pre [.ints .i64 (ai Y),.ints .i64 (ai X)]:=⟨_,_,rfl,⟨_,rfl⟩,⟨_,rfl⟩,by omega,by omega⟩
    have sg:fh.own=false:=rfl
    have os:lV.own=false:=rfl
    have ps:lV.pre [.ints .i64 (ai X),.ints .i64 (ai Y)]:=hj
    have B7:lV.pre [.ints .i64 (ai Y),.ints .i64 (ai X)]:=ah9
    by_cases cu:Y≤X
    ·have aq:dR x y=mk x.neg (X - Y) E:=by unfold dR;rw[if_neg h0,if_neg h1,if_neg bB,←dQ,←hF,←hg,if_pos cu]
     have ls:=qV (n:=X - Y) (by have:=qO (show X - Y≤X by omega);omega)
     have eU:¬X<Y:=by omega
     obtain⟨v,aA⟩:∃v,v=(if X<Y then (-1:Int)else if Y<X then 1 else 0):=⟨_,rfl⟩
     have yg:v≥0:=by rw[aA,if_neg eU];split<;>decide
     have rc:fh.res [.ints .i64 (ai X),.ints .i64 (ai Y)]= .int .i64 v:=by rw[aA];simp only[fh,bO]
     have rs:lV.res [.ints .i64 (ai X),.ints .i64 (ai Y)]= .ep [.ints .i64 (ai (X - Y)),.bool true]:=by simp only[lV,bO,if_neg eU,a7]
     simp (maxSteps:=2000000) only[↓ak,aj,↓reduceIte,reduceCtorEq,Nat.reduceEqDiff,Nat.reduceLeDiff,Nat.reduceSub,Nat.reduceAdd,Int.reduceToNat,Nat.reducePow,Int.reducePow,Int.reduceLE,Int.reduceLT,IntKind.bits,jT,aR,b0,aq,a4,aM,aI,h2,al,aE,aY,aW,aU,f76,oW,dE,f93,UY,os,ps,rs,f92,yK,sg,hj,rc,bO,yg]
     exact⟨_,_,_,rfl,ls,by omega,by omega⟩
    ·have aq:dR x y=mk y.neg (Y - X) E:=by unfold dR;rw[if_neg h0,if_neg h1,if_neg bB,←dQ,←hF,←hg,if_neg cu]
     have ls:=qV (n:=Y - X) (by have:=qO (show Y - X≤Y by omega);omega)
     have eU:X<Y:=by omega
     have rc:fh.res [.ints .i64 (ai X),.ints .i64 (ai Y)]= .int .i64 (-1):=by simp only[fh,bO,if_pos eU]
     have rs:lV.res [.ints .i64 (ai Y),.ints .i64 (ai X)]= .ep [.ints .i64 (ai (Y - X)),.bool true]:=by simp only[lV,bO,if_neg (show¬Y<X by omega),a7]
     have yg:¬((-1:Int)≥0):=by decide
     simp (maxSteps:=2000000) only[↓ak,aj,↓reduceIte,reduceCtorEq,Nat.reduceEqDiff,Nat.reduceLeDiff,Nat.reduceSub,Nat.reduceAdd,Int.reduceToNat,Nat.reducePow,Int.reducePow,Int.reduceLE,Int.reduceLT,IntKind.bits,jT,aR,b0,aq,a4,aM,aI,h2,al,aE,aY,aW,aU,f76,oW,dE,f93,UY,os,B7,rs,f92,yK,sg,hj,rc,bO,yg]
     exact⟨_,_,_,rfl,ls,by omega,by omega⟩
def mV:bq where
 pre:=fun ds=>∃x y:a3,ds=[aR x,aR y]∧cv x∧cv y
 res:=fun ds=>match ds with
  |[p,q]=> .int .i64 (hp (dO p) (dO q))
  |_=> .nilp
theorem Fg {x:a3} (h:cv x):cv (dI x):=kB h
theorem aia (Γ:Env) (f48:Γ.fn 48=some h4) (aib:Γ.mt 48=none) (f50:Γ.fn 50=some jT) (aic:Γ.mt 50=none) (f62:Γ.fn 62=some nX) (aid:Γ.mt 62=none)
 (ds:List D) (h:mV.pre ds):bH Γ Je Jf ds fun d=>d=mV.res ds:=by
 obtain⟨x,y,rfl,ah,hy⟩:=h
 simp (maxSteps:=2000000) only[↓ak,aj,↓reduceIte,reduceCtorEq,Nat.reduceEqDiff,Nat.reduceLeDiff,Nat.reduceSub,Nat.reduceAdd,Int.reduceToNat,Nat.reducePow,Int.reducePow,Int.reduceLE,Int.reduceLT,IntKind.bits,Je,Jf,mV,aR,b0,f48,aib,h4,f50,aic,jT,f62,aid,nX,hp]
 exact⟨⟨y,rfl⟩,⟨x,dI y,rfl,ah,Fg hy⟩,⟨dR x (dI y),rfl⟩⟩
structure bD where
 lo:a3
 hi:a3
deriving DecidableEq
def aQ (i:bD):D:= .agg [.bool i.lo.neg,a7 i.lo.m,.int .i64 i.lo.e,.bool i.hi.neg,a7 i.hi.m,.int .i64 i.hi.e]
def fv:D→bD
 | .agg [.bool a,.ints _ xs,.int _ e,.bool b,.ints _ ax,.int _ f]=>⟨⟨a,val xs,e⟩,⟨b,val ax,f⟩⟩
 |_=>⟨⟨false,0,0⟩,⟨false,0,0⟩⟩
theorem dw (x y:a3):fv (.agg [.bool x.neg,.ints .i64 (ai x.m),.int .i64 x.e,.bool y.neg,.ints .i64 (ai y.m),.int .i64 y.e])=⟨x,y⟩:=by
 simp only[fv,bO]
def hk (i:bD):Prop:=cv i.lo∧cv i.hi
def dB (a b:bD):bD:=⟨dR a.lo b.lo,dR a.hi b.hi⟩
def cZ (a:bD):bD:=⟨dI a.hi,dI a.lo⟩
def pN (a:bD):a3:=dR a.hi (dI a.lo)
def pD (d:a3):bD:=⟨d,d⟩
def lW:bq where
 pre:=fun ds=>∃x y:bD,ds=[aQ x,aQ y]∧hk x∧hk y
 res:=fun ds=>match ds with
  |[p,q]=>aQ (dB (fv p) (fv q))
  |_=> .nilp
theorem aie (Γ:Env) (f66:Γ.fn 66=some k5) (yU:Γ.mt 66=none) (ds:List D) (h:lW.pre ds):bH Γ IF IG ds fun d=>d=lW.res ds:=by
 obtain⟨x,y,rfl,⟨ez,e2⟩,⟨iu,mW⟩⟩:=h
 simp (maxSteps:=2000000) only[↓ak,aj,↓reduceIte,reduceCtorEq,Nat.reduceEqDiff,Nat.reduceLeDiff,Nat.reduceSub,Nat.reduceAdd,Int.reduceToNat,Nat.reducePow,Int.reducePow,Int.reduceLE,Int.reduceLT,IntKind.bits,IF,IG,lW,aQ,dw,dB,f66,yU,k5,b0,aR]
 exact⟨⟨x.lo,y.lo,rfl,ez,iu⟩,⟨x.hi,y.hi,rfl,e2,mW⟩⟩
def jw:bq where
 pre:=fun ds=>∃x:bD,ds=[aQ x]∧hk x
 res:=fun ds=>match ds with
  |[p]=>aQ (cZ (fv p))
  |_=> .nilp
theorem aif (Γ:Env) (f67:Γ.fn 67=some mU) (yT:Γ.mt 67=none) (ds:List D) (h:jw.pre ds):bH Γ Ix Iy ds fun d=>d=jw.res ds:=by
 obtain⟨x,rfl,ez,e2⟩:=h
 simp (maxSteps:=2000000) only[↓ak,aj,↓reduceIte,reduceCtorEq,Nat.reduceEqDiff,Nat.reduceLeDiff,Nat.reduceSub,Nat.reduceAdd,Int.reduceToNat,Nat.reducePow,Int.reducePow,Int.reduceLE,Int.reduceLT,IntKind.bits,Ix,Iy,jw,aQ,dw,cZ,f67,yT,mU,b0,aR]
 exact⟨⟨x.hi,rfl,e2⟩,⟨x.lo,rfl,ez⟩⟩
def vQ:bq where
 pre:=fun ds=>∃x:bD,ds=[aQ x]∧hk x
 res:=fun ds=>match ds with
  |[p]=>aR (pN (fv p))
  |_=> .nilp
theorem aih (Γ:Env) (f67:Γ.fn 67=some mU) (yT:Γ.mt 67=none) (f66:Γ.fn 66=some k5) (yU:Γ.mt 66=none) (ds:List D) (h:vQ.pre ds):bH Γ Iv Iw ds fun d=>d=vQ.res ds:=by
 obtain⟨x,rfl,ez,e2⟩:=h
 simp (maxSteps:=2000000) only[↓ak,aj,↓reduceIte,reduceCtorEq,Nat.reduceEqDiff,Nat.reduceLeDiff,Nat.reduceSub,Nat.reduceAdd,Int.reduceToNat,Nat.reducePow,Int.reducePow,Int.reduceLE,Int.reduceLT,IntKind.bits,Iv,Iw,vQ,aQ,dw,pN,f67,yT,mU,f66,yU,k5,b0,aR]
 exact⟨⟨x.lo,rfl,ez⟩,⟨x.hi,dI x.lo,rfl,e2,Fg ez⟩⟩
def rV:bq where
 pre:=fun ds=>∃x:a3,ds=[aR x]∧cv x
 res:=fun ds=>match ds with
  |[p]=>aQ (pD (dO p))
  |_=> .nilp
theorem aii (Γ:Env) (f64:Γ.fn 64=some gT) (m64:Γ.mt 64=none) (ds:List D) (h:rV.pre ds):bH Γ Ir Is ds fun d=>d=rV.res ds:=by
 obtain⟨x,rfl,ah⟩:=h
 have ay:=zM ah.1
 simp (maxSteps:=2000000) only[↓ak,aj,↓reduceIte,reduceCtorEq,Nat.reduceEqDiff,Nat.reduceLeDiff,Nat.reduceSub,Nat.reduceAdd,Int.reduceToNat,Nat.reducePow,Int.reducePow,Int.reduceLE,Int.reduceLT,IntKind.bits,Ir,Is,rV,aQ,b0,pD,f64,m64,gT,aR,ay]
 exact⟨⟨x,0,rfl,ah,by omega,by omega⟩,⟨x,0,rfl,ah,by omega,by omega⟩⟩
def gn:bq where
 pre:=fun ds=>∃x:a3,ds=[aR x]
 res:=fun ds=>match ds with
  |[p]=>aQ (pD (dO p))
  |_=> .nilp
theorem aij (Γ:Env) (ds:List D) (h:gn.pre ds):bH Γ It Iu ds fun d=>d=gn.res ds:=by
 obtain⟨x,rfl⟩:=h
 simp (maxSteps:=2000000) only[↓ak,aj,↓reduceIte,reduceCtorEq,Nat.reduceEqDiff,Nat.reduceLeDiff,Nat.reduceSub,Nat.reduceAdd,Int.reduceToNat,Nat.reducePow,Int.reducePow,Int.reduceLE,Int.reduceLT,IntKind.bits,It,Iu,gn,aQ,b0,pD,aR]
def lX:bq where
 pre:=fun ds=>∃x y:bD,ds=[aQ x,aQ y]∧hk x∧hk y
 res:=fun ds=>match ds with
  |[p,q]=> .bool (decide (fv p=fv q))
  |_=> .nilp
theorem aik (Γ:Env) (f24:Γ.fn 24=some hN) (UZ:Γ.mt 24=none) (ds:List D) (h:lX.pre ds):bH Γ CA CB ds fun d=>d=lX.res ds:=by
 obtain⟨x,y,rfl,⟨ez,e2⟩,⟨iu,mW⟩⟩:=h
 by_cases c:x.lo=y.lo
 ·have aq:decide (x=y)=decide (x.hi=y.hi):=by
   rw[decide_eq_decide];cases x;cases y;simp_all
  have ao:=decide_eq_true c
  simp (maxSteps:=2000000) only[↓ak,aj,↓reduceIte,reduceCtorEq,Nat.reduceEqDiff,Nat.reduceLeDiff,Nat.reduceSub,Nat.reduceAdd,Int.reduceToNat,Nat.reducePow,Int.reducePow,Int.reduceLE,Int.reduceLT,IntKind.bits,CA,CB,lX,aQ,dw,f24,UZ,hN,b0,aR,ao,aq]
  exact⟨⟨x.lo,y.lo,rfl,ez,iu⟩,⟨x.hi,y.hi,rfl,e2,mW⟩⟩
 ·have aq:decide (x=y)=false:=decide_eq_false fun e=>c (by rw[e])
  have ao:=decide_eq_false c
  simp (maxSteps:=2000000) only[↓ak,aj,↓reduceIte,reduceCtorEq,Nat.reduceEqDiff,Nat.reduceLeDiff,Nat.reduceSub,Nat.reduceAdd,Int.reduceToNat,Nat.reducePow,Int.reducePow,Int.reduceLE,Int.reduceLT,IntKind.bits,CA,CB,lX,aQ,dw,f24,UZ,hN,b0,aR,ao,aq]
  exact⟨x.lo,y.lo,rfl,ez,iu⟩
def kg (b:Bool) (xs:List Int) (e:Int):Bool:=nC xs && (decide (xs.length≤60) && (if xs.length=0 then !b && decide (e=0)else decide (xs.getD 0 0 % 2=1) && (decide (-6000≤e) && decide (e≤6000))))
theorem EV {xs:List Int} (h:nC xs=true):bQ xs:=fun x ah=>by
 unfold nC at h
 rw[Bool.and_eq_true,List.all_eq_true]at h
 have:=h.1 x ah
 simpa using this
def kp:bq where
 pre:=fun ds=>∃(b:Bool) (xs:List Int) (e:Int),ds=[.agg [.bool b,.ints .i64 xs,.int .i64 e]]∧xs.length≤100000
 res:=fun ds=>match ds with
  |[.agg [.bool b,.ints _ xs,.int _ e]]=> .bool (kg b xs e)
  |_=> .nilp
theorem ail (Γ:Env) (f96:Γ.fn 96=some nW) (rW:Γ.mt 96=none) (ds:List D) (h:kp.pre ds):bH Γ oT oU ds fun d=>d=kp.res ds:=by
 obtain⟨b,xs,e,rfl,aB⟩:=h
 have on:nW.own=false:=rfl
 have n5:nW.pre [.ints .i64 xs]:=⟨xs,rfl,aB⟩
 cases aH:nC xs with
 |false=>
  have qy:nW.res [.ints .i64 xs]= .bool false:=by simp only[nW,aH]
  have aq:kg b xs e=false:=by unfold kg;rw[aH,Bool.false_and]
  simp (maxSteps:=2000000) only[↓ak,aj,↓reduceIte,reduceCtorEq,Nat.reduceEqDiff,Nat.reduceLeDiff,Nat.reduceSub,Nat.reduceAdd,Int.reduceToNat,Nat.reducePow,Int.reducePow,Int.reduceLE,Int.reduceLT,IntKind.bits,oT,oU,kp,f96,rW,on,n5,qy,aq]
 |true=>
  have qy:nW.res [.ints .i64 xs]= .bool true:=by simp only[nW,aH]
  have gu:=EV aH
  by_cases bB:(xs.length:Int)>60
  ·have aq:kg b xs e=false:=by unfold kg;rw[decide_eq_false (show¬xs.length≤60 by omega),Bool.false_and,Bool.and_false]
   simp (maxSteps:=2000000) only[↓ak,aj,↓reduceIte,reduceCtorEq,Nat.reduceEqDiff,Nat.reduceLeDiff,Nat.reduceSub,Nat.reduceAdd,Int.reduceToNat,Nat.reducePow,Int.reducePow,Int.reduceLE,Int.reduceLT,IntKind.bits,oT,oU,kp,f96,rW,on,n5,qy,aq,bB]
  ·have d1:decide (xs.length≤60)=true:=decide_eq_true (by omega)
   by_cases cu:xs=[]
   ·subst cu
    have aq:kg b [] e=(!b && decide (e=0)):=by unfold kg;rw[aH,d1];rfl
    cases b with
    |true=>simp (maxSteps:=2000000) only[↓ak,aj,↓reduceIte,reduceCtorEq,Nat.reduceEqDiff,Nat.reduceLeDiff,Nat.reduceSub,Nat.reduceAdd,Int.reduceToNat,Nat.reducePow,Int.reducePow,Int.reduceLE,Int.reduceLT,IntKind.bits,oT,oU,kp,f96,rW,on,n5,qy,aq,bB,List.length_nil,Int.natCast_zero,beq_self_eq_true,Int.reduceGT]
    |false=>
     cases he:(e==0)with
     |true=>
      have d2:decide (e=0)=true:=decide_eq_true (by simpa using he)
      simp (maxSteps:=2000000) only[↓ak,aj,↓reduceIte,reduceCtorEq,Nat.reduceEqDiff,Nat.reduceLeDiff,Nat.reduceSub,Nat.reduceAdd,Int.reduceToNat,Nat.reducePow,Int.reducePow,Int.reduceLE,Int.reduceLT,IntKind.bits,oT,oU,kp,f96,rW,on,n5,qy,aq,bB,List.length_nil,Int.natCast_zero,beq_self_eq_true,Int.reduceGT,he,d2]
     |false=>
      have d2:decide (e=0)=false:=decide_eq_false (by simpa using he)
      simp (maxSteps:=2000000) only[↓ak,aj,↓reduceIte,reduceCtorEq,Nat.reduceEqDiff,Nat.reduceLeDiff,Nat.reduceSub,Nat.reduceAdd,Int.reduceToNat,Nat.reducePow,Int.reducePow,Int.reduceLE,Int.reduceLT,IntKind.bits,oT,oU,kp,f96,rW,on,n5,qy,aq,bB,List.length_nil,Int.natCast_zero,beq_self_eq_true,Int.reduceGT,he,d2]
   ·have aS:=List.length_pos_iff.2 cu
    have oV:((xs.length:Int)==0)=false:=beq_false_of_ne (by omega)
    have aq:kg b xs e=(decide (xs.getD 0 0 % 2=1) && (decide (-6000≤e) && decide (e≤6000))):=by unfold kg;rw[aH,d1,if_neg (by omega)];rfl
    have h0:=gu.getD 0
    have hm:(xs.getD 0 0).tmod 2=xs.getD 0 0 % 2:=Int.tmod_eq_emod_of_nonneg h0.1
    have cF:(0:Int)<xs.length:=by omega
    cases bh:(xs.getD 0 0 % 2==1)with
    |false=>
     have d2:decide (xs.getD 0 0 % 2=1)=false:=decide_eq_false (by simpa using bh)
     simp (maxSteps:=2000000) only[↓ak,aj,↓reduceIte,reduceCtorEq,Nat.reduceEqDiff,Nat.reduceLeDiff,Nat.reduceSub,Nat.reduceAdd,Int.reduceToNat,Nat.reducePow,Int.reducePow,Int.reduceLE,Int.reduceLT,IntKind.bits,oT,oU,kp,f96,rW,on,n5,qy,aq,bB,oV,hm,cF,aS,bh,d2]
     first|done|decide|omega
    |true=>
     have d2:decide (xs.getD 0 0 % 2=1)=true:=decide_eq_true (by simpa using bh)
     by_cases eU:e≥-6000
     ·have Km: -6000≤e:=eU
      simp (maxSteps:=2000000) only[↓ak,aj,↓reduceIte,reduceCtorEq,Nat.reduceEqDiff,Nat.reduceLeDiff,Nat.reduceSub,Nat.reduceAdd,Int.reduceToNat,Nat.reducePow,Int.reducePow,Int.reduceLE,Int.reduceLT,IntKind.bits,oT,oU,kp,f96,rW,on,n5,qy,aq,bB,oV,hm,cF,aS,bh,d2,eU,Km]
      first|done|decide|omega
     ·have Km:¬-6000≤e:=eU
      simp (maxSteps:=2000000) only[↓ak,aj,↓reduceIte,reduceCtorEq,Nat.reduceEqDiff,Nat.reduceLeDiff,Nat.reduceSub,Nat.reduceAdd,Int.reduceToNat,Nat.reducePow,Int.reducePow,Int.reduceLE,Int.reduceLT,IntKind.bits,oT,oU,kp,f96,rW,on,n5,qy,aq,bB,oV,hm,cF,aS,bh,d2,eU,Km]
      first|done|decide|omega
theorem Z9 {xs:List Int} (h:nC xs=true):ai (val xs)=xs:=by
 refine Ex (EV h) fun x ah=> ?_
 unfold nC at h
 simp only[Bool.and_eq_true,Bool.or_eq_true,decide_eq_true_eq]at h
 rcases h.2.2 with h0|h0
 ·rw[List.eq_nil_of_length_eq_zero h0]at ah;cases ah
 ·rw[List.getLast?_eq_getElem?]at ah
  rw[List.getD_eq_getElem?_getD,ah]at h0
  exact h0
theorem acW {b:Bool} {xs:List Int} {e:Int} (h:kg b xs e=true):ai (val xs)=xs∧cv ⟨b,val xs,e⟩:=by
 unfold kg at h
 simp only[Bool.and_eq_true,decide_eq_true_eq]at h
 obtain⟨h1,h2,al⟩:=h
 have aB:=Z9 h1
 refine⟨aB,?_⟩
 by_cases h0:xs.length=0
 ·rw[if_pos h0]at al
  have ah:=List.eq_nil_of_length_eq_zero h0
  subst ah
  simp only[Bool.and_eq_true,Bool.not_eq_true',decide_eq_true_eq]at al
  refine⟨⟨fun _=>al,fun h=>absurd rfl h⟩,fun h=>absurd rfl h⟩
 ·rw[if_neg h0]at al
  simp only[Bool.and_eq_true,decide_eq_true_eq]at al
  have gu:=EV h1
  have aC:=gu.getD 0
  have aA:=lk xs 0
  rw[List.drop_zero]at aA
  have ar:=sr (val xs)
  rw[aB]at ar
  have afJ:val xs % 2=1:=by omega
  refine⟨⟨fun h=> ?_,fun _=>afJ⟩,fun _=> ?_⟩
  ·simp only at h;omega
  ·simp only
   omega
def tl (up neg:Bool) (xs:List Int):List Int:=if up=neg then xs else ai (val xs+1)
def nP:fL where
 pre:=fun bG cs=>∃(up neg:Bool) (m:Nat) (ax:List Int) (e:Int),bG=[.d (.ints .i64 (ai m)),.box bF 0,.box (bF+1) 0]∧cs=[.cells [.d (.bool up)],.cells [.d (.bool neg),.d (.ints .i64 ax),.d (.int .i64 e)]]∧(ai m).length≤20000
 res:=fun bG cs=>match bG,cs with
  |[.d (.ints _ xs),_,_],[.cells [.d (.bool up)],.cells [.d (.bool neg),_,_]]=> .ints .i64 (tl up neg xs)
  |_,_=> .nilp
 out:=fun _ cs=>cs
theorem afK (Γ:Env) (f86:Γ.fn 86=some iO) (Kn:Γ.mt 86=none) (f85:Γ.fn 85=some jv) (yS:Γ.mt 85=none) (bG:List ag) (cs:List BC) (h:nP.pre bG cs):nE Γ BG BH bG cs fun d cs'=>d=nP.res bG cs∧cs'=nP.out bG cs:=by
 obtain⟨up,neg,m,ax,e,rfl,rfl,aB⟩:=h
 cases ao:(up==neg)with
 |true=>
  have aq:tl up neg (ai m)=ai m:=by unfold tl;rw[if_pos (by simpa using ao)]
  simp (maxSteps:=2000000) only[↓ak,aj,↓reduceIte,reduceCtorEq,Nat.reduceEqDiff,Nat.reduceLeDiff,Nat.reduceSub,Nat.reduceAdd,Int.reduceToNat,Nat.reducePow,Int.reducePow,Int.reduceLE,Int.reduceLT,IntKind.bits,bF,Nat.reduceBneDiff,Nat.reduceBeqDiff,Nat.reduceLT,List.flatMap_cons,List.flatMap_nil,List.append_nil,List.nil_append,List.cons_append,List.filter_cons,List.filter_nil,List.contains_cons,List.contains_nil,bne_self_eq_false,beq_self_eq_true,List.map_cons,List.map_nil,BG,BH,nP,aq,ao]
 |false=>
  have aq:tl up neg (ai m)=ai (m+1):=by unfold tl;rw[if_neg (by simpa using ao),bO]
  have h1:(1:Int).toNat=1:=rfl
  have c8:ai 1=[1]:=by decide+kernel
  simp (maxSteps:=2000000) only[↓ak,aj,↓reduceIte,reduceCtorEq,Nat.reduceEqDiff,Nat.reduceLeDiff,Nat.reduceSub,Nat.reduceAdd,Int.reduceToNat,Nat.reducePow,Int.reducePow,Int.reduceLE,Int.reduceLT,IntKind.bits,bF,Nat.reduceBneDiff,Nat.reduceBeqDiff,Nat.reduceLT,List.flatMap_cons,List.flatMap_nil,List.append_nil,List.nil_append,List.cons_append,List.filter_cons,List.filter_nil,List.contains_cons,List.contains_nil,bne_self_eq_false,beq_self_eq_true,List.map_cons,List.map_nil,BG,BH,nP,aq,ao,f86,Kn,iO,f85,yS,jv,bO,h1]
  refine⟨⟨1,rfl,by simp only[aG];omega⟩,⟨_,_,rfl,cN _,cN _,aB,?_⟩⟩
  rw[c8];decide
def n0:bq where
 pre:=fun ds=>∃(x:a3) (n:Int) (up:Bool),ds=[aR x,.int .i64 n,.bool up]∧cv x∧0≤n∧n≤100000
 res:=fun ds=>match ds with
  |[p,.int _ n,.bool up]=>aR (fg (dO p) n up)
  |_=> .nilp
theorem aim (Γ:Env) (f99:Γ.fn 99=some jQ) (tO:Γ.mt 99=none) (f64:Γ.fn 64=some gT) (m64:Γ.mt 64=none)
 (f84:Γ.fn 84=some jR) (Kj:Γ.mt 84=none) (afL:Γ.mt 110=some nP) (f87:Γ.fn 87=some eQ) (k3:Γ.mt 87=none)
 (ds:List D) (h:n0.pre ds):bH Γ CI CJ ds fun d=>d=n0.res ds:=by
 obtain⟨x,n,up,rfl,ah,dj,hz⟩:=h
 have ex:=iM ah
 have cP:=ie ah
 have aw:=kI ah
 by_cases ad:(bc x.m:Int) - n≤0
 ·have aq:fg x n up=x:=by unfold fg;rw[if_pos ad]
  have akM:gT.own=false:=rfl
  have n8:gT.pre [.agg [.bool x.neg,.ints .i64 (ai x.m),.int .i64 x.e],.int .i64 0]:=⟨x,0,rfl,ah,by omega,by omega⟩
  have n9:gT.res [.agg [.bool x.neg,.ints .i64 (ai x.m),.int .i64 x.e],.int .i64 0]= .agg [.bool x.neg,.ints .i64 (ai x.m),.int .i64 x.e]:=by
   simp only[gT,b0,zM ah.1,aR,a7]
  have akN:jQ.own=false:=rfl
  have qz:jQ.pre [.ints .i64 (ai x.m)]:=⟨x.m,rfl,by omega⟩
  have qA:jQ.res [.ints .i64 (ai x.m)]= .int .i64 (bc x.m):=by simp only[jQ,bO]
  rw[fP]
  unfold CI CJ
  refine cc (fun s=>s.af 1= .d (.int .i64 n)∧s.af 3= .box 3 0∧s.aw 3=some ⟨false,false,.cells [.d (.bool x.neg),.d (.ints .i64 (ai x.m)),.d (.int .i64 x.e)]⟩∧s.af 6= .box 6 0∧(∃bs bf bd,s.aw 6=some ⟨false,false,.cells [bs,bf,bd]⟩)) ?_ ?_
  ·simp (maxSteps:=2000000) only[↓ak,aj,↓reduceIte,reduceCtorEq,Nat.reduceEqDiff,Nat.reduceLeDiff,Nat.reduceSub,Nat.reduceAdd,Int.reduceToNat,Nat.reducePow,Int.reducePow,Int.reduceLE,Int.reduceLT,IntKind.bits,aR]
   exact⟨_,_,_,rfl⟩
  rintro s ⟨h1,al,aW,aM,bs,bf,bd,a0⟩
  refine cc (fun s=>s.af 7= .d (.int .i64 ((bc x.m:Int) - n))∧s.af 3= .box 3 0∧s.aw 3=some ⟨false,false,.cells [.d (.bool x.neg),.d (.ints .i64 (ai x.m)),.d (.int .i64 x.e)]⟩∧s.af 6= .box 6 0∧(∃bs bf bd,s.aw 6=some ⟨false,false,.cells [bs,bf,bd]⟩)) ?_ ?_
  ·simp (maxSteps:=2000000) only[↓ak,aj,↓reduceIte,reduceCtorEq,Nat.reduceEqDiff,Nat.reduceLeDiff,Nat.reduceSub,Nat.reduceAdd,Int.reduceToNat,Nat.reducePow,Int.reducePow,Int.reduceLE,Int.reduceLT,IntKind.bits,h1,al,aW,aM,a0,f99,tO,akN,qz,qA]
   repeat (refine And.intro (by first|omega|(simp only[aG];omega)|(simp only[aG]at*;omega)|(simp only[List.length_append,List.length_cons,List.length_nil,List.length_set,bL];omega)) ?_)
   exact⟨_,_,_,rfl⟩
  clear h1 al aW aM a0
  rintro s ⟨a4,al,aW,aM,bs,bf,bd,a0⟩
  simp (maxSteps:=2000000) only[↓ak,aj,↓reduceIte,reduceCtorEq,Nat.reduceEqDiff,Nat.reduceLeDiff,Nat.reduceSub,Nat.reduceAdd,Int.reduceToNat,Nat.reducePow,Int.reducePow,Int.reduceLE,Int.reduceLT,IntKind.bits,n0,aR,b0,aq,a4,al,aW,aM,a0,ad,f64,m64,akM,n8,n9]
 ·obtain⟨k,kj⟩:∃k:Nat,(bc x.m:Int) - n=k:=⟨((bc x.m:Int) - n).toNat,by omega⟩
  have bY:¬(k:Int)≤0:=by omega
  obtain⟨M,cj⟩:∃M,M=x.m / 2^k:=⟨_,rfl⟩
  have ay:=As x.m k
  rw[←cj]at ay
  have zk:=gy M
  have mP:jR.res [.ints .i64 (ai x.m),.int .i64 k]= .ints .i64 (ai M):=by simp only[jR,bO,Int.toNat_natCast,←cj,a7]
  have rU:jR.pre [.ints .i64 (ai x.m),.int .i64 k]:=⟨_,_,rfl,cN _,by omega,by simp only[aG];omega⟩
  have CY:jR.own=false:=rfl
  obtain⟨iY,lY⟩:∃iY,iY=M+(if up=x.neg then 0 else 1):=⟨_,rfl⟩
  have ain:bc iY≤bc M+2:=by
   have:=sw M (if up=x.neg then 0 else 1)
   have h1:bc (if up=x.neg then 0 else 1)≤1:=by split<;>decide
   rw[←lY]at this
   omega
  have aio:=gy iY
  have ao:tl up x.neg (ai M)=ai iY:=by
   unfold tl
   rw[lY,bO]
   split<;>rfl
  have aq:fg x n up=mk x.neg iY (x.e+k):=by
   unfold fg
   rw[if_neg ad,kj,Int.toNat_natCast,←cj,←lY]
  rw[fP]
  unfold CI CJ
  refine cc (fun s=>s.af 1= .d (.int .i64 n)∧s.af 3= .box 3 0∧s.aw 3=some ⟨false,false,.cells [.d (.bool x.neg),.d (.ints .i64 (ai x.m)),.d (.int .i64 x.e)]⟩∧s.af 5= .box 5 0∧s.aw 5=some ⟨false,false,.cells [.d (.bool up)]⟩∧s.af 6= .box 6 0∧(∃bs bf bd,s.aw 6=some ⟨false,false,.cells [bs,bf,bd]⟩)) ?_ ?_
  ·simp (maxSteps:=2000000) only[↓ak,aj,↓reduceIte,reduceCtorEq,Nat.reduceEqDiff,Nat.reduceLeDiff,Nat.reduceSub,Nat.reduceAdd,Int.reduceToNat,Nat.reducePow,Int.reducePow,Int.reduceLE,Int.reduceLT,IntKind.bits,aR]
   exact⟨_,_,_,rfl⟩
  rintro s ⟨h1,al,aW,aI,a9,aM,bs,bf,bd,a0⟩
  refine cc (fun s=>s.af 7= .d (.int .i64 k)∧s.af 3= .box 3 0∧s.aw 3=some ⟨false,false,.cells [.d (.bool x.neg),.d (.ints .i64 (ai x.m)),.d (.int .i64 x.e)]⟩∧s.af 5= .box 5 0∧s.aw 5=some ⟨false,false,.cells [.d (.bool up)]⟩∧s.af 6= .box 6 0∧(∃bs bf bd,s.aw 6=some ⟨false,false,.cells [bs,bf,bd]⟩)) ?_ ?_
  ·simp (maxSteps:=2000000) only[↓ak,aj,↓reduceIte,reduceCtorEq,Nat.reduceEqDiff,Nat.reduceLeDiff,Nat.reduceSub,Nat.reduceAdd,Int.reduceToNat,Nat.reducePow,Int.reducePow,Int.reduceLE,Int.reduceLT,IntKind.bits,h1,al,aW,aI,a9,aM,a0,f99,tO,jQ,bO,kj]
   refine⟨⟨x.m,rfl,by omega⟩,?_⟩
   repeat (refine And.intro (by first|omega|(simp only[aG];omega)|(simp only[aG]at*;omega)|(simp only[List.length_append,List.length_cons,List.length_nil,List.length_set,bL];omega)) ?_)
   exact⟨_,_,_,rfl⟩
  clear h1 al aW aI a9 aM a0
  rintro s ⟨a4,al,aW,aI,a9,aM,bs,bf,bd,a0⟩
  refine cc (fun s=>s.af 7= .d (.int .i64 k)∧s.af 3= .box 3 0∧s.aw 3=some ⟨false,false,.cells [.d (.bool x.neg),.d (.ints .i64 (ai x.m)),.d (.int .i64 x.e)]⟩∧s.af 5= .box 5 0∧s.aw 5=some ⟨false,false,.cells [.d (.bool up)]⟩∧s.af 6= .box 6 0∧(∃bs bf bd,s.aw 6=some ⟨false,false,.cells [bs,bf,bd]⟩)) ?_ ?_
  ·simp (maxSteps:=2000000) only[↓ak,aj,↓reduceIte,reduceCtorEq,Nat.reduceEqDiff,Nat.reduceLeDiff,Nat.reduceSub,Nat.reduceAdd,Int.reduceToNat,Nat.reducePow,Int.reducePow,Int.reduceLE,Int.reduceLT,IntKind.bits,a4,al,aW,aI,a9,aM,a0,bY]
   exact⟨_,_,_,rfl⟩
  clear a4 al aW aI a9 aM a0
  rintro s ⟨a4,al,aW,aI,a9,aM,bs,bf,bd,a0⟩
  refine cc (fun s=>s.af 8= .c0 110 [] [.box 5 0,.box 3 0]∧s.af 7= .d (.int .i64 k)∧s.af 3= .box 3 0∧s.aw 3=some ⟨false,false,.cells [.d (.bool x.neg),.d (.ints .i64 (ai x.m)),.d (.int .i64 x.e)]⟩∧s.af 5= .box 5 0∧s.aw 5=some ⟨false,false,.cells [.d (.bool up)]⟩∧s.af 6= .box 6 0∧(∃bs bf bd,s.aw 6=some ⟨false,false,.cells [bs,bf,bd]⟩)) ?_ ?_
  ·simp (maxSteps:=2000000) only[↓ak,aj,↓reduceIte,reduceCtorEq,Nat.reduceEqDiff,Nat.reduceLeDiff,Nat.reduceSub,Nat.reduceAdd,Int.reduceToNat,Nat.reducePow,Int.reducePow,Int.reduceLE,Int.reduceLT,IntKind.bits,a4,al,aW,aI,a9,aM,a0,bY]
   exact⟨_,_,_,rfl⟩
  clear a4 al aW aI a9 aM a0
  rintro s ⟨bz,a4,al,aW,aI,a9,aM,bs,bf,bd,a0⟩
  have aip:nP.pre [.d (.ints .i64 (ai M)),.box 1000000 0,.box 1000001 0] [.cells [.d (.bool up)],.cells [.d (.bool x.neg),.d (.ints .i64 (ai x.m)),.d (.int .i64 x.e)]]:=⟨up,x.neg,M,_,_,rfl,rfl,by omega⟩
  have aiq:∀bG cs,nP.out bG cs=cs:=fun _ _=>rfl
  have air:nP.res [.d (.ints .i64 (ai M)),.box 1000000 0,.box 1000001 0] [.cells [.d (.bool up)],.cells [.d (.bool x.neg),.d (.ints .i64 (ai x.m)),.d (.int .i64 x.e)]]= .ints .i64 (ai iY):=by simp only[nP,ao]
  have ais:eQ.own=false:=rfl
  have qc:eQ.pre [.bool x.neg,.ints .i64 (ai iY),.int .i64 (x.e+k)]:=⟨_,_,_,rfl,by omega,by omega,by omega⟩
  have qd:eQ.res [.bool x.neg,.ints .i64 (ai iY),.int .i64 (x.e+k)]=aR (mk x.neg iY (x.e+k)):=by simp only[eQ,bO]
  simp (maxSteps:=2000000) only[↓ak,aj,↓reduceIte,reduceCtorEq,Nat.reduceEqDiff,Nat.reduceLeDiff,Nat.reduceSub,Nat.reduceAdd,Int.reduceToNat,Nat.reducePow,Int.reducePow,Int.reduceLE,Int.reduceLT,IntKind.bits,bF,Nat.reduceBneDiff,Nat.reduceBeqDiff,Nat.reduceLT,List.flatMap_cons,List.flatMap_nil,List.append_nil,List.nil_append,List.cons_append,List.filter_cons,List.filter_nil,List.contains_cons,List.contains_nil,bne_self_eq_false,beq_self_eq_true,List.map_cons,List.map_nil,n0,aR,b0,aq,bz,a4,al,aW,aI,a9,aM,a0,f84,Kj,CY,rU,mP,afL,aip,aiq,air,f87,k3,ais,qc,qd]
  first|done|omega|(repeat (refine And.intro (by first|omega|(simp only[aG];omega)|(simp only[aG]at*;omega)|(simp only[List.length_append,List.length_cons,List.length_nil,List.length_set,bL];omega)) ?_);first|done|omega)
def vR:bq where
 pre:=fun ds=>∃(x:a3) (b:Bool) (k:Int),ds=[aR x,.bool b,.ptr [.int .i64 k]]∧cv x∧-100000≤k∧k≤100000
 res:=fun ds=>match ds with
  |[p,_,.ptr [.int _ k]]=>aR (fx (dO p) k)
  |_=> .nilp
theorem ait (Γ:Env) (f64:Γ.fn 64=some gT) (m64:Γ.mt 64=none) (ds:List D) (h:vR.pre ds):bH Γ Ju Jv ds fun d=>d=vR.res ds:=by
 obtain⟨x,b,k,rfl,ah,ad,bY⟩:=h
 simp (maxSteps:=2000000) only[↓ak,aj,↓reduceIte,reduceCtorEq,Nat.reduceEqDiff,Nat.reduceLeDiff,Nat.reduceSub,Nat.reduceAdd,Int.reduceToNat,Nat.reducePow,Int.reducePow,Int.reduceLE,Int.reduceLT,IntKind.bits,Ju,Jv,vR,aR,b0,f64,m64,gT]
 exact⟨x,k,rfl,ah,ad,bY⟩
def vS:bq where
 pre:=fun ds=>∃(x:a3) (b:Bool) (k:Int),ds=[aR x,.bool b,.ptr [.int .i64 k]]∧cv x∧0≤k∧k≤100000
 res:=fun ds=>match ds with
  |[p,.bool b,.ptr [.int _ k]]=>aR (fg (dO p) k b)
  |_=> .nilp
theorem aiu (Γ:Env) (f74:Γ.fn 74=some n0) (C0:Γ.mt 74=none) (ds:List D) (h:vS.pre ds):bH Γ JF JG ds fun d=>d=vS.res ds:=by
 obtain⟨x,b,k,rfl,ah,ad,bY⟩:=h
 simp (maxSteps:=2000000) only[↓ak,aj,↓reduceIte,reduceCtorEq,Nat.reduceEqDiff,Nat.reduceLeDiff,Nat.reduceSub,Nat.reduceAdd,Int.reduceToNat,Nat.reducePow,Int.reducePow,Int.reduceLE,Int.reduceLT,IntKind.bits,JF,JG,vS,aR,b0,f74,C0,n0]
 exact⟨x,k,b,rfl,ah,ad,bY⟩
def fe (x:a3) (n:Int):Int:=max (2*n+4 - bc x.m) 0+(x.e - max (2*n+4 - bc x.m) 0) % 2
def cp (M:Nat):Nat:=if aX M*aX M<M then 2*aX M+1 else 2*aX M
def dD (x:a3) (n:Int) (up:Bool):a3:=fg (mk false (cp (x.m*2^(fe x n).toNat)) ((x.e - fe x n) / 2 - 1)) n up
theorem EW (M:Nat):bc (aX M)≤(bc M+1) / 2:=by
 rw[hS]
 refine Q2 (Nat.lt_of_lt_of_le (jb M) ?_)
 rw[←Nat.pow_add]
 exact Nat.pow_le_pow_right (by decide) (by omega)
theorem zY (M:Nat):bc (cp M)≤(bc M+1) / 2+1:=by
 have h:=EW M
 rw[hS]at h⊢
 unfold cp
 rw[Nat.pow_succ]
 split<;>omega
theorem sy:cp 0=0:=by unfold cp;rw[At];rfl
theorem wK {x:a3} {n:Int} (aH:0≤n):0≤fe x n∧fe x n≤2*n+5:=by unfold fe;omega
theorem wP (x:a3) (n:Int):x.e - fe x n=2*((x.e - fe x n) / 2):=by unfold fe;omega
theorem OH {x:a3} (ah:cv x) {n:Int} (aH:0≤n) (hz:n≤1000):cv (mk false (cp (x.m*2^(fe x n).toNat)) ((x.e - fe x n) / 2 - 1)):=by
 refine qZ fun b5=> ?_
 have h0:x.m≠0:=fun e=>b5 (by rw[e,Nat.zero_mul,sy])
 have hw:=ah.2 h0
 have ad:=wK (x:=x) aH
 have he:=wP x n
 have ar:=zY (x.m*2^(fe x n).toNat)
 rw[j3 h0]at ar
 omega
def tP:bq where
 pre:=fun ds=>∃(x:a3) (n:Int) (up:Bool),ds=[aR x,.int .i64 n,.bool up]∧cv x∧0≤n∧n≤1000
 res:=fun ds=>match ds with
  |[p,.int _ n,.bool up]=>aR (dD (dO p) n up)
  |_=> .nilp
theorem aiv (Γ:Env) (f99:Γ.fn 99=some jQ) (tO:Γ.mt 99=none) (f100:Γ.fn 100=some kQ) (BX:Γ.mt 100=none) (f101:Γ.fn 101=some pQ) (S6:Γ.mt 101=none)
 (f102:Γ.fn 102=some ke) (x1:Γ.mt 102=none) (f103:Γ.fn 103=some nN) (BZ:Γ.mt 103=none) (f86:Γ.fn 86=some iO) (Kn:Γ.mt 86=none) (f85:Γ.fn 85=some jv) (yS:Γ.mt 85=none)
 (f87:Γ.fn 87=some eQ) (k3:Γ.mt 87=none) (f74:Γ.fn 74=some n0) (C0:Γ.mt 74=none) (ds:List D) (h:tP.pre ds):bH Γ Jm Jn ds fun d=>d=tP.res ds:=by
 obtain⟨x,n,up,rfl,ah,dj,hz⟩:=h
 have ex:=iM ah
 have cP:=ie ah
 have aw:=kI ah
 have mM:=wK (x:=x) dj
 have tQ:=wP x n
 have hW:=OH ah dj hz
 obtain⟨hH,Ko⟩:∃hH,hH=max (2*n+4 - (bc x.m:Int)) 0:=⟨_,rfl⟩
 have rR:(if (0:Int)>2*n+4 - bc x.m then 0 else 2*n+4 - (bc x.m:Int))=hH:=by split<;>omega
 have bV:fe x n=hH+(x.e - hH) % 2:=by unfold fe;rw[←Ko]
 obtain⟨k,ad⟩:∃k:Nat,fe x n=k:=⟨(fe x n).toNat,by omega⟩
 have kj:hH+(x.e - hH) % 2=(k:Int):=by omega
 obtain⟨M,cj⟩:∃M,M=x.m*2^k:=⟨_,rfl⟩
 obtain⟨q,aZ⟩:∃q,q=(x.e - k) / 2:=⟨_,rfl⟩
 rw[ad]at tQ mM hW
 rw[Int.toNat_natCast,←cj]at hW
 rw[←aZ]at tQ hW
 have yV:(x.e - (k:Int)).tdiv 2=q:=by rw[tQ];exact Int.mul_tdiv_cancel_left _ (by decide)
 have aq:dD x n up=fg (mk false (cp M) (q - 1)) n up:=by unfold dD;rw[ad,Int.toNat_natCast,←cj,←aZ]
 have akO:bc M≤bc x.m+k:=by
  by_cases h0:x.m=0
  ·rw[cj,h0,Nat.zero_mul,j2];omega
  ·rw[cj,j3 h0];omega
 have zk:=gy M
 have YV:=EW M
 have YW:=gy (aX M)
 have zl:=zY M
 have Li:=gy (cp M)
 have aiw:=uB (aX M) (aX M)
 have aix:=gy (aX M*aX M)
 have U0:kQ.own=false:=rfl
 have yW:kQ.pre [.ints .i64 (ai x.m),.int .i64 k]:=⟨_,_,rfl,cN _,by omega,by omega⟩
 have yX:kQ.res [.ints .i64 (ai x.m),.int .i64 k]= .ints .i64 (ai M):=by simp only[kQ,bO,Int.toNat_natCast,←cj,a7]
 have B1:kQ.pre [.ints .i64 (ai (aX M)),.int .i64 1]:=⟨_,_,rfl,cN _,by omega,by omega⟩
 have B2:kQ.res [.ints .i64 (ai (aX M)),.int .i64 1]= .ints .i64 (ai (2*aX M)):=by
  simp only[kQ,bO,a7]
  rw[show aX M*2^(1:Int).toNat=2*aX M by rw[show (1:Int).toNat=1 from rfl];omega]
 have U1:pQ.own=false:=rfl
 have yY:pQ.pre [.ints .i64 (ai M)]:=⟨M,rfl,by omega⟩
 have yZ:pQ.res [.ints .i64 (ai M)]= .ints .i64 (ai (aX M)):=by simp only[pQ,bO,a7]
 have U2:nN.own=false:=rfl
 have y0:nN.pre [.ints .i64 (ai (aX M)),.ints .i64 (ai (aX M))]:=⟨_,_,rfl,cN _,cN _,by omega,by omega⟩
 have y1:nN.res [.ints .i64 (ai (aX M)),.ints .i64 (ai (aX M))]= .ints .i64 (ai (aX M*aX M)):=by simp only[nN,bO,a7]
 have U3:ke.own=false:=rfl
 have U4:ke.pre [.ints .i64 (ai (aX M*aX M)),.ints .i64 (ai M)]:=⟨_,_,rfl,by omega,by omega⟩
 have tR:eQ.pre [.bool false,.ints .i64 (ai (cp M)),.int .i64 (q - 1)]:=⟨_,_,_,rfl,by omega,by omega,by omega⟩
 have U5:eQ.own=false:=rfl
 have qe:eQ.res [.bool false,.ints .i64 (ai (cp M)),.int .i64 (q - 1)]=aR (mk false (cp M) (q - 1)):=by simp only[eQ,bO]
 have C1:n0.pre [.agg [.bool (mk false (cp M) (q - 1)).neg,.ints .i64 (ai (mk false (cp M) (q - 1)).m),.int .i64 (mk false (cp M) (q - 1)).e],.int .i64 n,.bool up]:=⟨_,_,_,rfl,hW,dj,by omega⟩
 rw[fP]
 unfold Jm Jn
 refine cc (fun s=>s.af 1= .d (.int .i64 n)∧s.af 2= .d (.bool up)∧s.af 3= .box 3 0∧s.aw 3=some ⟨false,false,.cells [.d (.bool x.neg),.d (.ints .i64 (ai x.m)),.d (.int .i64 x.e)]⟩∧s.af 6= .box 6 0∧(∃bs bf bd,s.aw 6=some ⟨false,false,.cells [bs,bf,bd]⟩)) ?_ ?_
 ·simp (maxSteps:=2000000) only[↓ak,aj,↓reduceIte,reduceCtorEq,Nat.reduceEqDiff,Nat.reduceLeDiff,Nat.reduceSub,Nat.reduceAdd,Int.reduceToNat,Nat.reducePow,Int.reducePow,Int.reduceLE,Int.reduceLT,IntKind.bits,aR]
  exact⟨_,_,_,rfl⟩
 rintro s ⟨h1,h2,al,aW,aM,bs,bf,bd,a0⟩
 refine cc (fun s=>s.af 7= .d (.int .i64 hH)∧s.af 1= .d (.int .i64 n)∧s.af 2= .d (.bool up)∧s.af 3= .box 3 0∧s.aw 3=some ⟨false,false,.cells [.d (.bool x.neg),.d (.ints .i64 (ai x.m)),.d (.int .i64 x.e)]⟩∧s.af 6= .box 6 0∧(∃bs bf bd,s.aw 6=some ⟨false,false,.cells [bs,bf,bd]⟩)) ?_ ?_
 ·simp (maxSteps:=2000000) only[↓ak,aj,↓reduceIte,reduceCtorEq,Nat.reduceEqDiff,Nat.reduceLeDiff,Nat.reduceSub,Nat.reduceAdd,Int.reduceToNat,Nat.reducePow,Int.reducePow,Int.reduceLE,Int.reduceLT,IntKind.bits,h1,h2,al,aW,aM,a0,f99,tO,jQ,bO,rR]
  repeat (refine And.intro (by first|omega|(simp only[aG];omega)|(simp only[aG]at*;omega)|(simp only[List.length_append,List.length_cons,List.length_nil,List.length_set,bL];omega)) ?_)
  refine⟨⟨x.m,rfl,by omega⟩,?_⟩
  repeat (refine And.intro (by first|omega|(simp only[aG];omega)|(simp only[aG]at*;omega)|(simp only[List.length_append,List.length_cons,List.length_nil,List.length_set,bL];omega)) ?_)
  exact⟨_,_,_,rfl⟩
 clear h1 h2 al aW aM a0
 rintro s ⟨a4,h1,h2,al,aW,aM,bs,bf,bd,a0⟩
 refine cc (fun s=>s.af 7= .d (.int .i64 k)∧s.af 1= .d (.int .i64 n)∧s.af 2= .d (.bool up)∧s.af 3= .box 3 0∧s.aw 3=some ⟨false,false,.cells [.d (.bool x.neg),.d (.ints .i64 (ai x.m)),.d (.int .i64 x.e)]⟩∧s.af 6= .box 6 0∧(∃bs bf bd,s.aw 6=some ⟨false,false,.cells [bs,bf,bd]⟩)) ?_ ?_
 ·simp (maxSteps:=2000000) only[↓ak,aj,↓reduceIte,reduceCtorEq,Nat.reduceEqDiff,Nat.reduceLeDiff,Nat.reduceSub,Nat.reduceAdd,Int.reduceToNat,Nat.reducePow,Int.reducePow,Int.reduceLE,Int.reduceLT,IntKind.bits,a4,h1,h2,al,aW,aM,a0,OD,kj]
  repeat (refine And.intro (by first|omega|(simp only[aG];omega)|(simp only[aG]at*;omega)|(simp only[List.length_append,List.length_cons,List.length_nil,List.length_set,bL];omega)) ?_)
  exact⟨_,_,_,rfl⟩
 clear a4 h1 h2 al aW aM a0
 rintro s ⟨a4,h1,h2,al,aW,aM,bs,bf,bd,a0⟩
 by_cases ao:aX M*aX M<M
 ·have b5:cp M=2*aX M+1:=by unfold cp;rw[if_pos ao]
  have Kp:ke.res [.ints .i64 (ai (aX M*aX M)),.ints .i64 (ai M)]= .int .i64 (-1):=by simp only[ke,bO,xh ao]
  have aY:bc (2*aX M)≤bc (cp M):=qO (by omega)
  have hP:=gy (2*aX M)
  have aiy:jv.own=false:=rfl
  have pad:jv.pre [.ints .i64 (ai (2*aX M)),.ints .i64 (ai 1)]:=⟨_,_,rfl,cN _,cN _,by omega,by rw[show ai 1=[1]by decide+kernel];decide⟩
  have Kq:jv.res [.ints .i64 (ai (2*aX M)),.ints .i64 (ai 1)]= .ints .i64 (ai (cp M)):=by simp only[jv,bO,a7,b5]
  have aiz:iO.own=false:=rfl
  have aiA:iO.pre [.int .i64 1]:=⟨1,rfl,by simp only[aG];omega⟩
  have aiB:iO.res [.int .i64 1]= .ints .i64 (ai 1):=rfl
  simp (maxSteps:=2000000) only[↓ak,aj,↓reduceIte,reduceCtorEq,Nat.reduceEqDiff,Nat.reduceLeDiff,Nat.reduceSub,Nat.reduceAdd,Int.reduceToNat,Nat.reducePow,Int.reducePow,Int.reduceLE,Int.reduceLT,IntKind.bits,tP,aR,b0,aq,a4,h1,h2,al,aW,aM,a0,f100,BX,U0,yW,yX,f101,S6,U1,yY,yZ,B1,B2,f103,BZ,U2,y0,y1,f102,x1,U3,U4,Kp,f86,Kn,aiz,aiA,aiB,f85,yS,aiy,pad,Kq,yV,f87,k3,U5,tR,qe,f74,C0,n0]
  repeat (refine And.intro (by first|omega|(simp only[aG];omega)|(simp only[aG]at*;omega)|(simp only[List.length_append,List.length_cons,List.length_nil,List.length_set,bL];omega)) ?_)
  exact⟨_,_,_,rfl,hW,dj,by omega⟩
 ·have b5:cp M=2*aX M:=by unfold cp;rw[if_neg ao]
  have tB:aX M*aX M=M∨M<aX M*aX M:=by omega
  have heq:aX M*aX M=M:=by have:=(jG M).1;omega
  have Kp:ke.res [.ints .i64 (ai (aX M*aX M)),.ints .i64 (ai M)]= .int .i64 0:=by simp only[ke,bO,heq,xi]
  rw[b5]at tR qe C1 Li zl hW aq
  simp (maxSteps:=2000000) only[↓ak,aj,↓reduceIte,reduceCtorEq,Nat.reduceEqDiff,Nat.reduceLeDiff,Nat.reduceSub,Nat.reduceAdd,Int.reduceToNat,Nat.reducePow,Int.reducePow,Int.reduceLE,Int.reduceLT,IntKind.bits,tP,aR,b0,aq,a4,h1,h2,al,aW,aM,a0,f100,BX,U0,yW,yX,f101,S6,U1,yY,yZ,B1,B2,f103,BZ,U2,y0,y1,f102,x1,U3,U4,Kp,yV,f87,k3,U5,tR,qe,f74,C0,n0]
  repeat (refine And.intro (by first|omega|(simp only[aG];omega)|(simp only[aG]at*;omega)|(simp only[List.length_append,List.length_cons,List.length_nil,List.length_set,bL];omega)) ?_)
  exact⟨_,_,_,rfl,hW,dj,by omega⟩
def vT:bq where
 pre:=fun ds=>∃(x:a3) (b:Bool) (k:Int),ds=[aR x,.bool b,.ptr [.int .i64 k]]∧cv x∧0≤k∧k≤1000
 res:=fun ds=>match ds with
  |[p,.bool b,.ptr [.int _ k]]=>aR (dD (dO p) k b)
  |_=> .nilp
theorem aiC (Γ:Env) (f61:Γ.fn 61=some tP) (aiD:Γ.mt 61=none) (ds:List D) (h:vT.pre ds):bH Γ Jk Jl ds fun d=>d=vT.res ds:=by
 obtain⟨x,b,k,rfl,ah,ad,bY⟩:=h
 simp (maxSteps:=2000000) only[↓ak,aj,↓reduceIte,reduceCtorEq,Nat.reduceEqDiff,Nat.reduceLeDiff,Nat.reduceSub,Nat.reduceAdd,Int.reduceToNat,Nat.reducePow,Int.reducePow,Int.reduceLE,Int.reduceLT,IntKind.bits,Jk,Jl,vT,aR,b0,f61,aiD,tP]
 exact⟨x,k,b,rfl,ah,ad,bY⟩
def kR (f:Nat) (k:Int) (x:a3) (up:Bool):a3:=if f=68 then fx x k else if f=73 then fg x k up else dD x k up
def mX:bq where
 pre:=fun ds=>∃(x:bD) (f:Nat) (k:Int),ds=[aQ x,.fn f [] [.ptr [.int .i64 k]]]∧hk x∧((f=68∧-100000≤k∧k≤100000)∨(f=73∧0≤k∧k≤100000)∨(f=60∧0≤k∧k≤1000))
 res:=fun ds=>match ds with
  |[p,.fn f _ [.ptr [.int _ k]]]=>aQ ⟨kR f k (fv p).lo false,kR f k (fv p).hi true⟩
  |_=> .nilp
theorem aiE (Γ:Env) (f68:Γ.fn 68=some vR) (aiF:Γ.mt 68=none) (f73:Γ.fn 73=some vS) (aiG:Γ.mt 73=none) (f60:Γ.fn 60=some vT) (aiH:Γ.mt 60=none) (ds:List D) (h:mX.pre ds):bH Γ yy yz ds fun d=>d=mX.res ds:=by
 obtain⟨x,f,k,rfl,⟨ez,e2⟩,⟨rfl,h1,h2⟩|⟨rfl,h1,h2⟩|⟨rfl,h1,h2⟩⟩:=h
 ·have e:∀y b,kR 68 k y b=fx y k:=fun y b=>by unfold kR;rw[if_pos rfl]
  simp (maxSteps:=2000000) only[↓ak,aj,↓reduceIte,reduceCtorEq,Nat.reduceEqDiff,Nat.reduceLeDiff,Nat.reduceSub,Nat.reduceAdd,Int.reduceToNat,Nat.reducePow,Int.reducePow,Int.reduceLE,Int.reduceLT,IntKind.bits,yy,yz,mX,aQ,dw,e,f68,aiF,vR,aR,b0]
  exact⟨⟨x.lo,false,k,rfl,ez,h1,h2⟩,⟨x.hi,true,k,rfl,e2,h1,h2⟩⟩
 ·have e:∀y b,kR 73 k y b=fg y k b:=fun y b=>by unfold kR;rw[if_neg (by decide),if_pos rfl]
  simp (maxSteps:=2000000) only[↓ak,aj,↓reduceIte,reduceCtorEq,Nat.reduceEqDiff,Nat.reduceLeDiff,Nat.reduceSub,Nat.reduceAdd,Int.reduceToNat,Nat.reducePow,Int.reducePow,Int.reduceLE,Int.reduceLT,IntKind.bits,yy,yz,mX,aQ,dw,e,f73,aiG,vS,aR,b0]
  exact⟨⟨x.lo,false,k,rfl,ez,h1,h2⟩,⟨x.hi,true,k,rfl,e2,h1,h2⟩⟩
 ·have e:∀y b,kR 60 k y b=dD y k b:=fun y b=>by unfold kR;rw[if_neg (by decide),if_neg (by decide)]
  simp (maxSteps:=2000000) only[↓ak,aj,↓reduceIte,reduceCtorEq,Nat.reduceEqDiff,Nat.reduceLeDiff,Nat.reduceSub,Nat.reduceAdd,Int.reduceToNat,Nat.reducePow,Int.reducePow,Int.reduceLE,Int.reduceLT,IntKind.bits,yy,yz,mX,aQ,dw,e,f60,aiH,vT,aR,b0]
  exact⟨⟨x.lo,false,k,rfl,ez,h1,h2⟩,⟨x.hi,true,k,rfl,e2,h1,h2⟩⟩
def fy (a:bD) (k:Int):bD:=⟨fx a.lo k,fx a.hi k⟩
def kh (a:bD) (n:Int):bD:=⟨fg a.lo n false,fg a.hi n true⟩
def mv (a:bD) (n:Int):bD:=⟨dD a.lo n false,dD a.hi n true⟩
def rX:bq where
 pre:=fun ds=>∃(x:bD) (k:Int),ds=[aQ x,.int .i64 k]∧hk x∧-100000≤k∧k≤100000
 res:=fun ds=>match ds with
  |[p,.int _ k]=>aQ (fy (fv p) k)
  |_=> .nilp
theorem aiI (Γ:Env) (f59:Γ.fn 59=some mX) (y2:Γ.mt 59=none) (ds:List D) (h:rX.pre ds):bH Γ IB IC ds fun d=>d=rX.res ds:=by
 obtain⟨x,k,rfl,ah,h1,h2⟩:=h
 have e:∀y b,kR 68 k y b=fx y k:=fun y b=>by unfold kR;rw[if_pos rfl]
 simp (maxSteps:=2000000) only[↓ak,aj,↓reduceIte,reduceCtorEq,Nat.reduceEqDiff,Nat.reduceLeDiff,Nat.reduceSub,Nat.reduceAdd,Int.reduceToNat,Nat.reducePow,Int.reducePow,Int.reduceLE,Int.reduceLT,IntKind.bits,IB,IC,rX,aQ,dw,e,fy,f59,y2,mX]
 exact⟨x,_,k,rfl,ah,.inl ⟨rfl,h1,h2⟩⟩
def vU:bq where
 pre:=fun ds=>∃(x:bD) (k:Int),ds=[aQ x,.int .i64 k]∧hk x∧0≤k∧k≤100000
 res:=fun ds=>match ds with
  |[p,.int _ k]=>aQ (kh (fv p) k)
  |_=> .nilp
theorem aiJ (Γ:Env) (f59:Γ.fn 59=some mX) (y2:Γ.mt 59=none) (ds:List D) (h:vU.pre ds):bH Γ IP IQ ds fun d=>d=vU.res ds:=by
 obtain⟨x,k,rfl,ah,h1,h2⟩:=h
 have e:∀y b,kR 73 k y b=fg y k b:=fun y b=>by unfold kR;rw[if_neg (by decide),if_pos rfl]
 simp (maxSteps:=2000000) only[↓ak,aj,↓reduceIte,reduceCtorEq,Nat.reduceEqDiff,Nat.reduceLeDiff,Nat.reduceSub,Nat.reduceAdd,Int.reduceToNat,Nat.reducePow,Int.reducePow,Int.reduceLE,Int.reduceLT,IntKind.bits,IP,IQ,vU,aQ,dw,e,kh,f59,y2,mX]
 exact⟨x,_,k,rfl,ah,.inr (.inl ⟨rfl,h1,h2⟩)⟩
def lB (x:bD) (n:Int):D:=if gD x.lo<0 then .ep [aQ ⟨⟨false,0,0⟩,⟨false,0,0⟩⟩,.bool false]else .ep [aQ (mv x n),.bool true]
def qf:bq where
 pre:=fun ds=>∃(x:bD) (k:Int),ds=[aQ x,.int .i64 k]∧hk x∧0≤k∧k≤1000
 res:=fun ds=>match ds with
  |[p,.int _ k]=>lB (fv p) k
  |_=> .nilp
theorem aiK (Γ:Env) (f59:Γ.fn 59=some mX) (y2:Γ.mt 59=none) (f58:Γ.fn 58=some nZ) (CZ:Γ.mt 58=none) (ds:List D) (h:qf.pre ds):bH Γ Cw Cx ds fun d=>d=qf.res ds:=by
 obtain⟨x,k,rfl,ah,h1,h2⟩:=h
 have l8:ai 0=[]:=by decide+kernel
 have e:∀y b,kR 60 k y b=dD y k b:=fun y b=>by unfold kR;rw[if_neg (by decide),if_neg (by decide)]
 by_cases ay:gD x.lo<0
 ·have aq:lB x k= .ep [aQ ⟨⟨false,0,0⟩,⟨false,0,0⟩⟩,.bool false]:=by unfold lB;rw[if_pos ay]
  simp (maxSteps:=2000000) only[↓ak,aj,↓reduceIte,reduceCtorEq,Nat.reduceEqDiff,Nat.reduceLeDiff,Nat.reduceSub,Nat.reduceAdd,Int.reduceToNat,Nat.reducePow,Int.reducePow,Int.reduceLE,Int.reduceLT,IntKind.bits,Cw,Cx,qf,aQ,dw,e,aq,ay,l8,f58,CZ,nZ,aR,b0]
  first|done|exact⟨x.lo,rfl⟩
 ·have aq:lB x k= .ep [aQ (mv x k),.bool true]:=by unfold lB;rw[if_neg ay]
  simp (maxSteps:=2000000) only[↓ak,aj,↓reduceIte,reduceCtorEq,Nat.reduceEqDiff,Nat.reduceLeDiff,Nat.reduceSub,Nat.reduceAdd,Int.reduceToNat,Nat.reducePow,Int.reducePow,Int.reduceLE,Int.reduceLT,IntKind.bits,Cw,Cx,qf,aQ,dw,e,aq,ay,l8,mv,f58,CZ,nZ,aR,b0,f59,y2,mX]
  refine⟨⟨x.lo,rfl⟩,?_⟩
  exact⟨x,_,k,rfl,ah,.inr (.inr ⟨rfl,h1,h2⟩)⟩
def hY (x:a3):List D:=[.bool x.neg,.ints .i64 (ai x.m),.int .i64 x.e]
theorem adH (x:a3):dO (.agg (hY x))=x:=b0 x
theorem xw:∀(l:List a3),(l.map hY).map (fun r=>dO (.agg r))=l
 |[]=>rfl
 |x::l=>by rw[List.map_cons,List.map_cons,xw l,adH]
def dG (lt:a3→a3→Bool) (m:a3):List a3→a3
 |[]=>m
 |y::ax=>dG lt (if lt y m=true then y else m) ax
def fi (y m:a3):Bool:=decide (hp y m<0)
def fj (y m:a3):Bool:=decide (hp y m>0)
theorem EB {lt:a3→a3→Bool} {m:a3} {l:List a3} {i:Nat} (h:i<l.length):dG lt m (l.drop i)=dG lt (if lt l[i] m=true then l[i]else m) (l.drop (i+1)):=by
 rw[List.drop_eq_getElem_cons h];rfl
def oX:bq where
 pre:=fun ds=>∃(x:a3) (l:List a3),ds=[.recs 3 ((x::l).map hY),.fn 57 [] []]∧(∀y∈x::l,cv y)∧l.length≤1000
 res:=fun ds=>match ds with
  |[.recs _ rows,_]=>match rows.map (fun r=>dO (.agg r))with
   |x::l=>aR (dG fi x l)
   |[]=> .nilp
  |_=> .nilp
theorem aiL (Γ:Env) (f57:Γ.fn 57=some jS) (Kr:Γ.mt 57=none) (ds:List D) (h:oX.pre ds):bH Γ JB JC ds fun d=>d=oX.res ds:=by
 obtain⟨x,l,rfl,hW,aB⟩:=h
 have cq:oX.res [.recs 3 ((x::l).map hY),.fn 57 [] []]=aR (dG fi x l):=by simp only[oX,xw]
 rw[cq]
 have sg:jS.own=false:=rfl
 have hj:∀y m:a3,cv y→cv m→jS.pre [.agg [.bool y.neg,.ints .i64 (ai y.m),.int .i64 y.e],.agg [.bool m.neg,.ints .i64 (ai m.m),.int .i64 m.e]]:=fun y m h1 h2=>⟨y,m,rfl,h1,h2⟩
 have rc:∀y m:a3,jS.res [.agg [.bool y.neg,.ints .i64 (ai y.m),.int .i64 y.e],.agg [.bool m.neg,.ints .i64 (ai m.m),.int .i64 m.e]]= .int .i64 (hp y m):=fun y m=>by simp only[jS,b0]
 obtain⟨rows,jf⟩:∃rows,rows=(x::l).map hY:=⟨_,rfl⟩
 have hlen:rows.length=l.length+1:=by rw[jf,List.length_map,List.length_cons]
 have rY:∀(i:Nat) (hi:i<l.length+1),rows.getD i []=[.bool ((x::l)[i]'(by simpa using hi)).neg,.ints .i64 (ai ((x::l)[i]'(by simpa using hi)).m),.int .i64 ((x::l)[i]'(by simpa using hi)).e]:=fun i hi=>by
  rw[List.getD_eq_getElem?_getD,List.getElem?_eq_getElem (by omega),Option.getD_some]
  simp only[jf,List.getElem_map,hY]
 rw[←jf]
 have h0:=rY 0 (by omega)
 simp only[List.getElem_cons_zero]at h0
 have cW:¬(rows.length:Int)<1:=by omega
 have dy:(0:Int)<rows.length:=by omega
 have vV:=hW x (by simp)
 simp (maxSteps:=2000000) only[↓ak,aj,↓reduceIte,reduceCtorEq,Nat.reduceEqDiff,Nat.reduceLeDiff,Nat.reduceSub,Nat.reduceAdd,Int.reduceToNat,Nat.reducePow,Int.reducePow,Int.reduceLE,Int.reduceLT,IntKind.bits,JB,JC,aR,cW,dy,h0]
 refine cc (fun s=>s.af 4= .box 4 0∧(∃bs bf bd,s.aw 4=some ⟨false,false,.cells [bs,bf,bd]⟩)∧s.af 5= .box 5 0∧s.aw 5=some ⟨false,false,.cells [.d (.bool (dG fi x l).neg),.d (.ints .i64 (ai (dG fi x l).m)),.d (.int .i64 (dG fi x l).e)]⟩) ?_ ?_
 ·simp (maxSteps:=2000000) only[↓ak,aj,↓reduceIte,reduceCtorEq,Nat.reduceEqDiff,Nat.reduceLeDiff,Nat.reduceSub,Nat.reduceAdd,Int.reduceToNat,Nat.reducePow,Int.reducePow,Int.reduceLE,Int.reduceLT,IntKind.bits]
  refine eC (fun s=>∃(i:Nat) (m:a3),s.af 0= .d (.recs 3 rows)∧s.af 1= .d (.fn 57 [] [])∧s.af 4= .box 4 0∧(∃bs bf bd,s.aw 4=some ⟨false,false,.cells [bs,bf,bd]⟩)∧s.af 5= .box 5 0∧s.aw 5=some ⟨false,false,.cells [.d (.bool m.neg),.d (.ints .i64 (ai m.m)),.d (.int .i64 m.e)]⟩∧s.af 6= .d (.int .i64 ((i+1:Nat):Int))∧i≤l.length∧cv m∧dG fi m (l.drop i)=dG fi x l)
   (fun s=>match s.af 6 with| .d (.int _ n)=>rows.length - n.toNat|_=>0) ?_ ?_
  ·refine⟨0,x,?_⟩
   simp (maxSteps:=2000000) only[↓ak,aj,↓reduceIte,reduceCtorEq,Nat.reduceEqDiff,Nat.reduceLeDiff,Nat.reduceSub,Nat.reduceAdd,Int.reduceToNat,Nat.reducePow,Int.reducePow,Int.reduceLE,Int.reduceLT,IntKind.bits,Nat.zero_add,List.drop_zero]
   exact⟨⟨_,_,_,rfl⟩,rfl,Nat.zero_le _,vV⟩
  ·rintro s ⟨i,m,cF,a1,cx,⟨bs,bf,bd,aU⟩,dx,a9,eJ,hi,hm,hf⟩
   by_cases ci:((i+1:Nat):Int)<rows.length
   ·have mY:i<l.length:=by omega
    have fF:i+1<rows.length:=by omega
    have lZ:=rY (i+1) (by omega)
    obtain⟨y,hy⟩:∃y,y=l[i]:=⟨_,rfl⟩
    have Ks:(x::l)[i+1]'(by simpa using mY)=y:=by rw[hy];rfl
    rw[Ks]at lZ
    have Kt:cv y:=hW y (by rw[hy];exact List.mem_cons_of_mem _ (List.getElem_mem mY))
    rw[EB mY,←hy]at hf
    have p1:=hj y m Kt hm
    have bP:=rc y m
    have key:(.ints .i64 (ai y.m):D)= .ints .i64 (ai y.m):=rfl
    have x3:cv (if fi y m=true then y else m):=by split<;>assumption
    obtain⟨M,cj⟩:∃M,M=(if fi y m=true then y else m):=⟨_,rfl⟩
    rw[←cj]at hf x3
    refine cc (fun s=>s.af 0= .d (.recs 3 rows)∧s.af 1= .d (.fn 57 [] [])∧s.af 4= .box 4 0∧(∃bs bf bd,s.aw 4=some ⟨false,false,.cells [bs,bf,bd]⟩)∧s.af 5= .box 5 0∧s.aw 5=some ⟨false,false,.cells [.d (.bool m.neg),.d (.ints .i64 (ai m.m)),.d (.int .i64 m.e)]⟩∧s.af 6= .d (.int .i64 ((i+1:Nat):Int))) ?_ ?_
    ·simp (maxSteps:=60000) only[↓ak,aj,↓reduceIte,reduceCtorEq,Nat.reduceEqDiff,Nat.reduceLeDiff,Nat.reduceSub,Nat.reduceAdd,Int.reduceToNat,Nat.reducePow,Int.reducePow,Int.reduceLE,Int.reduceLT,IntKind.bits,cF,a1,cx,aU,dx,a9,eJ,ci,fF]
     exact⟨_,_,_,rfl⟩
    have wj:=eJ
    clear cF a1 cx aU dx a9 eJ
    rintro s ⟨cF,a1,cx,⟨bs,bf,bd,aU⟩,dx,a9,eJ⟩
    refine cc (fun s=>s.af 0= .d (.recs 3 rows)∧s.af 1= .d (.fn 57 [] [])∧s.af 4= .box 4 0∧(∃bs bf bd,s.aw 4=some ⟨false,false,.cells [bs,bf,bd]⟩)∧s.af 5= .box 5 0∧s.aw 5=some ⟨false,false,.cells [.d (.bool M.neg),.d (.ints .i64 (ai M.m)),.d (.int .i64 M.e)]⟩∧s.af 6= .d (.int .i64 ((i+1:Nat):Int))) ?_ ?_
    ·rw[jF]
     refine cc (fun s=>s.af 27= .d (.bool (fi y m))∧s.af 0= .d (.recs 3 rows)∧s.af 1= .d (.fn 57 [] [])∧s.af 4= .box 4 0∧(∃bs bf bd,s.aw 4=some ⟨false,false,.cells [bs,bf,bd]⟩)∧s.af 5= .box 5 0∧s.aw 5=some ⟨false,false,.cells [.d (.bool m.neg),.d (.ints .i64 (ai m.m)),.d (.int .i64 m.e)]⟩∧s.af 6= .d (.int .i64 ((i+1:Nat):Int))) ?_ ?_
     ·simp (maxSteps:=60000) only[↓ak,aj,↓reduceIte,reduceCtorEq,Nat.reduceEqDiff,Nat.reduceLeDiff,Nat.reduceSub,Nat.reduceAdd,Int.reduceToNat,Nat.reducePow,Int.reducePow,Int.reduceLE,Int.reduceLT,IntKind.bits,cF,a1,cx,aU,dx,a9,eJ,fF,ci,lZ,Int.toNat_natCast,f57,Kr,sg,p1,bP]
      exact⟨by omega,rfl,_,_,_,rfl⟩
     clear cF a1 cx aU dx a9 eJ
     rintro s ⟨qg,cF,a1,cx,⟨bs,bf,bd,aU⟩,dx,a9,eJ⟩
     cases ar:fi y m with
     |true=>
      rw[ar,if_pos rfl]at cj
      rw[ar]at qg
      subst cj
      simp (maxSteps:=60000) only[↓ak,aj,↓reduceIte,reduceCtorEq,Nat.reduceEqDiff,Nat.reduceLeDiff,Nat.reduceSub,Nat.reduceAdd,Int.reduceToNat,Nat.reducePow,Int.reducePow,Int.reduceLE,Int.reduceLT,IntKind.bits,qg,cF,a1,cx,aU,dx,a9,eJ,fF,ci,lZ,Int.toNat_natCast]
      exact⟨by omega,_,_,_,rfl⟩
     |false=>
      rw[ar,if_neg (by decide)]at cj
      rw[ar]at qg
      subst cj
      simp (maxSteps:=60000) only[↓ak,aj,↓reduceIte,reduceCtorEq,Nat.reduceEqDiff,Nat.reduceLeDiff,Nat.reduceSub,Nat.reduceAdd,Int.reduceToNat,Nat.reducePow,Int.reducePow,Int.reduceLE,Int.reduceLT,IntKind.bits,qg,cF,a1,cx,aU,dx,a9,eJ]
      exact⟨_,_,_,rfl⟩
    clear cF a1 cx aU dx a9 eJ
    rintro s ⟨cF,a1,cx,⟨bs,bf,bd,aU⟩,dx,a9,eJ⟩
    simp (maxSteps:=60000) only[↓ak,aj,↓reduceIte,reduceCtorEq,Nat.reduceEqDiff,Nat.reduceLeDiff,Nat.reduceSub,Nat.reduceAdd,Int.reduceToNat,Nat.reducePow,Int.reducePow,Int.reduceLE,Int.reduceLT,IntKind.bits,cF,a1,cx,aU,dx,a9,eJ]
    refine⟨by simp only[aG];omega,⟨i+1,M,⟨_,_,_,rfl⟩,rfl,by omega,by omega,x3,hf⟩,?_⟩
    rw[wj]
    show rows.length - _<rows.length - _
    omega
   ·have Ku:l.length≤i:=by omega
    rw[List.drop_eq_nil_of_le Ku]at hf
    simp only[dG]at hf
    subst hf
    simp (maxSteps:=2000000) only[↓ak,aj,↓reduceIte,reduceCtorEq,Nat.reduceEqDiff,Nat.reduceLeDiff,Nat.reduceSub,Nat.reduceAdd,Int.reduceToNat,Nat.reducePow,Int.reducePow,Int.reduceLE,Int.reduceLT,IntKind.bits,cF,a1,cx,aU,dx,a9,eJ,ci]
    exact⟨_,_,_,rfl⟩
 ·rintro s ⟨cx,⟨bs,bf,bd,aU⟩,dx,a9⟩
  simp (maxSteps:=2000000) only[↓ak,aj,↓reduceIte,reduceCtorEq,Nat.reduceEqDiff,Nat.reduceLeDiff,Nat.reduceSub,Nat.reduceAdd,Int.reduceToNat,Nat.reducePow,Int.reducePow,Int.reduceLE,Int.reduceLT,IntKind.bits,cx,aU,dx,a9]
def oY:bq where
 pre:=fun ds=>∃(x:a3) (l:List a3),ds=[.recs 3 ((x::l).map hY),.fn 57 [] []]∧(∀y∈x::l,cv y)∧l.length≤1000
 res:=fun ds=>match ds with
  |[.recs _ rows,_]=>match rows.map (fun r=>dO (.agg r))with
   |x::l=>aR (dG fj x l)
   |[]=> .nilp
  |_=> .nilp
theorem aiM (Γ:Env) (f57:Γ.fn 57=some jS) (Kr:Γ.mt 57=none) (ds:List D) (h:oY.pre ds):bH Γ JD JE ds fun d=>d=oY.res ds:=by
 obtain⟨x,l,rfl,hW,aB⟩:=h
 have cq:oY.res [.recs 3 ((x::l).map hY),.fn 57 [] []]=aR (dG fj x l):=by simp only[oY,xw]
 rw[cq]
 have sg:jS.own=false:=rfl
 have hj:∀y m:a3,cv y→cv m→jS.pre [.agg [.bool y.neg,.ints .i64 (ai y.m),.int .i64 y.e],.agg [.bool m.neg,.ints .i64 (ai m.m),.int .i64 m.e]]:=fun y m h1 h2=>⟨y,m,rfl,h1,h2⟩
 have rc:∀y m:a3,jS.res [.agg [.bool y.neg,.ints .i64 (ai y.m),.int .i64 y.e],.agg [.bool m.neg,.ints .i64 (ai m.m),.int .i64 m.e]]= .int .i64 (hp y m):=fun y m=>by simp only[jS,b0]
 obtain⟨rows,jf⟩:∃rows,rows=(x::l).map hY:=⟨_,rfl⟩
 have hlen:rows.length=l.length+1:=by rw[jf,List.length_map,List.length_cons]
 have rY:∀(i:Nat) (hi:i<l.length+1),rows.getD i []=[.bool ((x::l)[i]'(by simpa using hi)).neg,.ints .i64 (ai ((x::l)[i]'(by simpa using hi)).m),.int .i64 ((x::l)[i]'(by simpa using hi)).e]:=fun i hi=>by
  rw[List.getD_eq_getElem?_getD,List.getElem?_eq_getElem (by omega),Option.getD_some]
  simp only[jf,List.getElem_map,hY]
 rw[←jf]
 have h0:=rY 0 (by omega)
 simp only[List.getElem_cons_zero]at h0
 have cW:¬(rows.length:Int)<1:=by omega
 have dy:(0:Int)<rows.length:=by omega
 have vV:=hW x (by simp)
 simp (maxSteps:=2000000) only[↓ak,aj,↓reduceIte,reduceCtorEq,Nat.reduceEqDiff,Nat.reduceLeDiff,Nat.reduceSub,Nat.reduceAdd,Int.reduceToNat,Nat.reducePow,Int.reducePow,Int.reduceLE,Int.reduceLT,IntKind.bits,JD,JE,aR,cW,dy,h0]
 refine cc (fun s=>s.af 4= .box 4 0∧(∃bs bf bd,s.aw 4=some ⟨false,false,.cells [bs,bf,bd]⟩)∧s.af 5= .box 5 0∧s.aw 5=some ⟨false,false,.cells [.d (.bool (dG fj x l).neg),.d (.ints .i64 (ai (dG fj x l).m)),.d (.int .i64 (dG fj x l).e)]⟩) ?_ ?_
 ·simp (maxSteps:=2000000) only[↓ak,aj,↓reduceIte,reduceCtorEq,Nat.reduceEqDiff,Nat.reduceLeDiff,Nat.reduceSub,Nat.reduceAdd,Int.reduceToNat,Nat.reducePow,Int.reducePow,Int.reduceLE,Int.reduceLT,IntKind.bits]
  refine eC (fun s=>∃(i:Nat) (m:a3),s.af 0= .d (.recs 3 rows)∧s.af 1= .d (.fn 57 [] [])∧s.af 4= .box 4 0∧(∃bs bf bd,s.aw 4=some ⟨false,false,.cells [bs,bf,bd]⟩)∧s.af 5= .box 5 0∧s.aw 5=some ⟨false,false,.cells [.d (.bool m.neg),.d (.ints .i64 (ai m.m)),.d (.int .i64 m.e)]⟩∧s.af 6= .d (.int .i64 ((i+1:Nat):Int))∧i≤l.length∧cv m∧dG fj m (l.drop i)=dG fj x l)
   (fun s=>match s.af 6 with| .d (.int _ n)=>rows.length - n.toNat|_=>0) ?_ ?_
  ·refine⟨0,x,?_⟩
   simp (maxSteps:=2000000) only[↓ak,aj,↓reduceIte,reduceCtorEq,Nat.reduceEqDiff,Nat.reduceLeDiff,Nat.reduceSub,Nat.reduceAdd,Int.reduceToNat,Nat.reducePow,Int.reducePow,Int.reduceLE,Int.reduceLT,IntKind.bits,Nat.zero_add,List.drop_zero]
   exact⟨⟨_,_,_,rfl⟩,rfl,Nat.zero_le _,vV⟩
  ·rintro s ⟨i,m,cF,a1,cx,⟨bs,bf,bd,aU⟩,dx,a9,eJ,hi,hm,hf⟩
   by_cases ci:((i+1:Nat):Int)<rows.length
   ·have mY:i<l.length:=by omega
    have fF:i+1<rows.length:=by omega
    have lZ:=rY (i+1) (by omega)
    obtain⟨y,hy⟩:∃y,y=l[i]:=⟨_,rfl⟩
    have Ks:(x::l)[i+1]'(by simpa using mY)=y:=by rw[hy];rfl
    rw[Ks]at lZ
    have Kt:cv y:=hW y (by rw[hy];exact List.mem_cons_of_mem _ (List.getElem_mem mY))
    rw[EB mY,←hy]at hf
    have p1:=hj y m Kt hm
    have bP:=rc y m
    have key:(.ints .i64 (ai y.m):D)= .ints .i64 (ai y.m):=rfl
    have x3:cv (if fj y m=true then y else m):=by split<;>assumption
    obtain⟨M,cj⟩:∃M,M=(if fj y m=true then y else m):=⟨_,rfl⟩
    rw[←cj]at hf x3
    refine cc (fun s=>s.af 0= .d (.recs 3 rows)∧s.af 1= .d (.fn 57 [] [])∧s.af 4= .box 4 0∧(∃bs bf bd,s.aw 4=some ⟨false,false,.cells [bs,bf,bd]⟩)∧s.af 5= .box 5 0∧s.aw 5=some ⟨false,false,.cells [.d (.bool m.neg),.d (.ints .i64 (ai m.m)),.d (.int .i64 m.e)]⟩∧s.af 6= .d (.int .i64 ((i+1:Nat):Int))) ?_ ?_
    ·simp (maxSteps:=60000) only[↓ak,aj,↓reduceIte,reduceCtorEq,Nat.reduceEqDiff,Nat.reduceLeDiff,Nat.reduceSub,Nat.reduceAdd,Int.reduceToNat,Nat.reducePow,Int.reducePow,Int.reduceLE,Int.reduceLT,IntKind.bits,cF,a1,cx,aU,dx,a9,eJ,ci,fF]
     exact⟨_,_,_,rfl⟩
    have wj:=eJ
    clear cF a1 cx aU dx a9 eJ
    rintro s ⟨cF,a1,cx,⟨bs,bf,bd,aU⟩,dx,a9,eJ⟩
    refine cc (fun s=>s.af 0= .d (.recs 3 rows)∧s.af 1= .d (.fn 57 [] [])∧s.af 4= .box 4 0∧(∃bs bf bd,s.aw 4=some ⟨false,false,.cells [bs,bf,bd]⟩)∧s.af 5= .box 5 0∧s.aw 5=some ⟨false,false,.cells [.d (.bool M.neg),.d (.ints .i64 (ai M.m)),.d (.int .i64 M.e)]⟩∧s.af 6= .d (.int .i64 ((i+1:Nat):Int))) ?_ ?_
    ·rw[jF]
     refine cc (fun s=>s.af 27= .d (.bool (fj y m))∧s.af 0= .d (.recs 3 rows)∧s.af 1= .d (.fn 57 [] [])∧s.af 4= .box 4 0∧(∃bs bf bd,s.aw 4=some ⟨false,false,.cells [bs,bf,bd]⟩)∧s.af 5= .box 5 0∧s.aw 5=some ⟨false,false,.cells [.d (.bool m.neg),.d (.ints .i64 (ai m.m)),.d (.int .i64 m.e)]⟩∧s.af 6= .d (.int .i64 ((i+1:Nat):Int))) ?_ ?_
     ·simp (maxSteps:=60000) only[↓ak,aj,↓reduceIte,reduceCtorEq,Nat.reduceEqDiff,Nat.reduceLeDiff,Nat.reduceSub,Nat.reduceAdd,Int.reduceToNat,Nat.reducePow,Int.reducePow,Int.reduceLE,Int.reduceLT,IntKind.bits,cF,a1,cx,aU,dx,a9,eJ,fF,ci,lZ,Int.toNat_natCast,f57,Kr,sg,p1,bP]
      exact⟨by omega,rfl,_,_,_,rfl⟩
     clear cF a1 cx aU dx a9 eJ
     rintro s ⟨qg,cF,a1,cx,⟨bs,bf,bd,aU⟩,dx,a9,eJ⟩
     cases ar:fj y m with
     |true=>
      rw[ar,if_pos rfl]at cj
      rw[ar]at qg
      subst cj
      simp (maxSteps:=60000) only[↓ak,aj,↓reduceIte,reduceCtorEq,Nat.reduceEqDiff,Nat.reduceLeDiff,Nat.reduceSub,Nat.reduceAdd,Int.reduceToNat,Nat.reducePow,Int.reducePow,Int.reduceLE,Int.reduceLT,IntKind.bits,qg,cF,a1,cx,aU,dx,a9,eJ,fF,ci,lZ,Int.toNat_natCast]
      exact⟨by omega,_,_,_,rfl⟩
     |false=>
      rw[ar,if_neg (by decide)]at cj
      rw[ar]at qg
      subst cj
      simp (maxSteps:=60000) only[↓ak,aj,↓reduceIte,reduceCtorEq,Nat.reduceEqDiff,Nat.reduceLeDiff,Nat.reduceSub,Nat.reduceAdd,Int.reduceToNat,Nat.reducePow,Int.reducePow,Int.reduceLE,Int.reduceLT,IntKind.bits,qg,cF,a1,cx,aU,dx,a9,eJ]
      exact⟨_,_,_,rfl⟩
    clear cF a1 cx aU dx a9 eJ
    rintro s ⟨cF,a1,cx,⟨bs,bf,bd,aU⟩,dx,a9,eJ⟩
    simp (maxSteps:=60000) only[↓ak,aj,↓reduceIte,reduceCtorEq,Nat.reduceEqDiff,Nat.reduceLeDiff,Nat.reduceSub,Nat.reduceAdd,Int.reduceToNat,Nat.reducePow,Int.reducePow,Int.reduceLE,Int.reduceLT,IntKind.bits,cF,a1,cx,aU,dx,a9,eJ]
    refine⟨by simp only[aG];omega,⟨i+1,M,⟨_,_,_,rfl⟩,rfl,by omega,by omega,x3,hf⟩,?_⟩
    rw[wj]
    show rows.length - _<rows.length - _
    omega
   ·have Ku:l.length≤i:=by omega
    rw[List.drop_eq_nil_of_le Ku]at hf
    simp only[dG]at hf
    subst hf
    simp (maxSteps:=2000000) only[↓ak,aj,↓reduceIte,reduceCtorEq,Nat.reduceEqDiff,Nat.reduceLeDiff,Nat.reduceSub,Nat.reduceAdd,Int.reduceToNat,Nat.reducePow,Int.reducePow,Int.reduceLE,Int.reduceLT,IntKind.bits,cF,a1,cx,aU,dx,a9,eJ,ci]
    exact⟨_,_,_,rfl⟩
 ·rintro s ⟨cx,⟨bs,bf,bd,aU⟩,dx,a9⟩
  simp (maxSteps:=2000000) only[↓ak,aj,↓reduceIte,reduceCtorEq,Nat.reduceEqDiff,Nat.reduceLeDiff,Nat.reduceSub,Nat.reduceAdd,Int.reduceToNat,Nat.reducePow,Int.reducePow,Int.reduceLE,Int.reduceLT,IntKind.bits,cx,aU,dx,a9]
def gU (x:bD):List D:=[.bool x.lo.neg,.ints .i64 (ai x.lo.m),.int .i64 x.lo.e,.bool x.hi.neg,.ints .i64 (ai x.hi.m),.int .i64 x.hi.e]
theorem Rb (x:bD):fv (.agg (gU x))=x:=dw x.lo x.hi
def rZ:bq where
 pre:=fun ds=>∃x y:bD,ds=[aQ x,aQ y]
 res:=fun ds=>match ds with
  |[.agg xs,.agg ax]=> .fn 108 [] [.ptr xs,.ptr ax]
  |_=> .nilp
theorem aiN (Γ:Env) (ds:List D) (h:rZ.pre ds):bH Γ Jz JA ds fun d=>d=rZ.res ds:=by
 obtain⟨x,y,rfl⟩:=h
 simp (maxSteps:=2000000) only[↓ak,aj,↓reduceIte,reduceCtorEq,Nat.reduceEqDiff,Nat.reduceLeDiff,Nat.reduceSub,Nat.reduceAdd,Int.reduceToNat,Nat.reducePow,Int.reducePow,Int.reduceLE,Int.reduceLT,IntKind.bits,Jz,JA,rZ,aQ]
def uU (x y:bD) (k:Nat):a3:=cH (if k<2 then x.lo else x.hi) (if k % 2=0 then y.lo else y.hi)
def oK:kx where
 pre:=fun ds=>∃x y:bD,ds=[.ptr (gU x),.ptr (gU y)]∧hk x∧hk y
 seq:=fun ds k=>match ds with
  |[.ptr xs,.ptr ax]=>if k<4 then some [aR (uU (fv (.agg xs)) (fv (.agg ax)) k)]else none
  |_=>none
def m8 (u:a3) (s:St):Prop:=s.af 5= .box 5 0∧∃e,s.aw 5=some ⟨false,e,.cells [.d (.bool u.neg),.d (.ints .i64 (ai u.m)),.d (.int .i64 u.e)]⟩
theorem afM (Γ:Env) (f109:Γ.fn 109=some pR) (afN:Γ.mt 109=none) (ds:List D) (h:oK.pre ds) (M L:Nat):vp Γ (oK.seq ds) M L Gw ds:=by
 obtain⟨x,y,rfl,ah,hy⟩:=h
 have dQ:∀k,k<4→oK.seq [.ptr (gU x),.ptr (gU y)] k=some [aR (uU x y k)]:=fun k ad=>by
  simp only[oK,if_pos ad,Rb]
 have U6:oK.seq [.ptr (gU x),.ptr (gU y)] 4=none:=rfl
 generalize oK.seq [.ptr (gU x),.ptr (gU y)]=E at dQ U6⊢
 have l9:(nU L [.ptr (gU x),.ptr (gU y)]).af 0= .c6 L:=rfl
 have s1:(nU L [.ptr (gU x),.ptr (gU y)]).af 1= .d (.ptr [.bool x.lo.neg,.ints .i64 (ai x.lo.m),.int .i64 x.lo.e,.bool x.hi.neg,.ints .i64 (ai x.hi.m),.int .i64 x.hi.e]):=rfl
 have s2:(nU L [.ptr (gU x),.ptr (gU y)]).af 2= .d (.ptr [.bool y.lo.neg,.ints .i64 (ai y.lo.m),.int .i64 y.lo.e,.bool y.hi.neg,.ints .i64 (ai y.hi.m),.int .i64 y.hi.e]):=rfl
 unfold vp Gw
 generalize nU L [.ptr (gU x),.ptr (gU y)]=s at l9 s1 s2⊢
 obtain⟨X,hF⟩:∃X:List (List D),X=[[.bool x.lo.neg,.ints .i64 (ai x.lo.m),.int .i64 x.lo.e],[.bool x.hi.neg,.ints .i64 (ai x.hi.m),.int .i64 x.hi.e]]:=⟨_,rfl⟩
 obtain⟨Y,hg⟩:∃Y:List (List D),Y=[[.bool y.lo.neg,.ints .i64 (ai y.lo.m),.int .i64 y.lo.e],[.bool y.hi.neg,.ints .i64 (ai y.hi.m),.int .i64 y.hi.e]]:=⟨_,rfl⟩
 have alP:X.length=2:=by rw[hF];rfl
 have alQ:Y.length=2:=by rw[hg];rfl
 refine mg (fun s=>s.af 0= .c6 L∧s.af 2= .d (.ptr [.bool y.lo.neg,.ints .i64 (ai y.lo.m),.int .i64 y.lo.e,.bool y.hi.neg,.ints .i64 (ai y.hi.m),.int .i64 y.hi.e])∧s.af 12= .d (.recs 3 X)∧s.af 13= .d (.int .i64 2)∧s.af 14= .d (.int .i64 0)) rfl ?_ ?_
 ·simp (maxSteps:=2000000) only[↓ak,aj,↓reduceIte,reduceCtorEq,Nat.reduceEqDiff,Nat.reduceLeDiff,Nat.reduceSub,Nat.reduceAdd,Int.reduceToNat,Nat.reducePow,Int.reducePow,Int.reduceLE,Int.reduceLT,IntKind.bits,l9,s1,s2,hF]
  first|done|rfl
 clear l9 s1 s2
 rintro s ⟨h0,h2,dk,dC,dH⟩
 refine wU ?_
 refine Eg (fun z s=>∃i:Nat,i≤2∧z=⟨2*i,true⟩∧s.af 0= .c6 L∧s.af 2= .d (.ptr [.bool y.lo.neg,.ints .i64 (ai y.lo.m),.int .i64 y.lo.e,.bool y.hi.neg,.ints .i64 (ai y.hi.m),.int .i64 y.hi.e])∧s.af 12= .d (.recs 3 X)∧s.af 13= .d (.int .i64 2)∧s.af 14= .d (.int .i64 i)) (fun z _=>4 - z.k) ⟨0,by omega,rfl,h0,h2,dk,dC,dH⟩ ?_
 clear h0 h2 dk dC dH
 rintro z s ⟨i,hi,rfl,h0,h2,dk,dC,dH⟩
 refine mg (fun s=>s.af 15= .d (.bool (decide ((i:Int)<2)))∧s.af 0= .c6 L∧s.af 2= .d (.ptr [.bool y.lo.neg,.ints .i64 (ai y.lo.m),.int .i64 y.lo.e,.bool y.hi.neg,.ints .i64 (ai y.hi.m),.int .i64 y.hi.e])∧s.af 12= .d (.recs 3 X)∧s.af 13= .d (.int .i64 2)∧s.af 14= .d (.int .i64 i)) rfl ?_ ?_
 ·simp (maxSteps:=2000000) only[↓ak,aj,↓reduceIte,reduceCtorEq,Nat.reduceEqDiff,Nat.reduceLeDiff,Nat.reduceSub,Nat.reduceAdd,Int.reduceToNat,Nat.reducePow,Int.reducePow,Int.reduceLE,Int.reduceLT,IntKind.bits,h0,h2,dk,dC,dH]
 clear h0 h2 dk dC dH
 rintro s ⟨iN,h0,h2,dk,dC,dH⟩
 by_cases ci:(i:Int)<2
 rotate_left
 ·have Kv:i=2:=by omega
  subst Kv
  rw[decide_eq_false ci]at iN
  refine mg (fun _=>False) rfl ?_ (fun s h=>h.elim)
  simp (maxSteps:=2000000) only[↓ak,aj,↓reduceIte,reduceCtorEq,Nat.reduceEqDiff,Nat.reduceLeDiff,Nat.reduceSub,Nat.reduceAdd,Int.reduceToNat,Nat.reducePow,Int.reducePow,Int.reduceLE,Int.reduceLT,IntKind.bits,iN]
  exact U6
 rw[decide_eq_true ci]at iN
 have mY:i<2:=by omega
 refine mg (fun s=>s.af 0= .c6 L∧s.af 2= .d (.ptr [.bool y.lo.neg,.ints .i64 (ai y.lo.m),.int .i64 y.lo.e,.bool y.hi.neg,.ints .i64 (ai y.hi.m),.int .i64 y.hi.e])∧s.af 12= .d (.recs 3 X)∧s.af 13= .d (.int .i64 2)∧s.af 14= .d (.int .i64 i)) rfl ?_ ?_
 ·simp (maxSteps:=2000000) only[↓ak,aj,↓reduceIte,reduceCtorEq,Nat.reduceEqDiff,Nat.reduceLeDiff,Nat.reduceSub,Nat.reduceAdd,Int.reduceToNat,Nat.reducePow,Int.reducePow,Int.reduceLE,Int.reduceLT,IntKind.bits,iN,h0,h2,dk,dC,dH]
 clear h0 h2 dk dC dH iN
 rintro s ⟨h0,h2,dk,dC,dH⟩
 obtain⟨u,hu⟩:∃u:a3,u=if 2*i<2 then x.lo else x.hi:=⟨_,rfl⟩
 have aiO:cv u:=by rw[hu];split;exact ah.1;exact ah.2
 have aiP:X.getD i []=[.bool u.neg,.ints .i64 (ai u.m),.int .i64 u.e]:=by
  rw[hF,hu]
  rcases (by omega:i=0∨i=1)with rfl|rfl<;>rfl
 have aiQ:i<X.length:=by omega
 have akP:(i:Int)<X.length:=by omega
 show eP Γ E M L (.seq _ _) _ _ _
 refine uR (fun z s=>z=⟨2*i+2,true⟩∧s.af 0= .c6 L∧s.af 2= .d (.ptr [.bool y.lo.neg,.ints .i64 (ai y.lo.m),.int .i64 y.lo.e,.bool y.hi.neg,.ints .i64 (ai y.hi.m),.int .i64 y.hi.e])∧s.af 12= .d (.recs 3 X)∧s.af 13= .d (.int .i64 2)∧s.af 14= .d (.int .i64 i)) ?_ ?_
 rotate_left
 ·clear h0 h2 dk dC dH
  rintro z s ⟨rfl,h0,h2,dk,dC,dH⟩
  refine kA _ rfl ?_
  simp (maxSteps:=2000000) only[↓ak,aj,↓reduceIte,reduceCtorEq,Nat.reduceEqDiff,Nat.reduceLeDiff,Nat.reduceSub,Nat.reduceAdd,Int.reduceToNat,Nat.reducePow,Int.reducePow,Int.reduceLE,Int.reduceLT,IntKind.bits,h0,h2,dk,dC,dH]
  exact⟨by simp only[aG];omega,⟨i+1,by omega,rfl,rfl⟩,by omega⟩
 refine wU ?_
 refine mg (fun s=>s.af 5= .box 5 0∧s.aw 5=some ⟨false,false,.cells [.d (.bool u.neg),.d (.ints .i64 (ai u.m)),.d (.int .i64 u.e)]⟩∧s.af 0= .c6 L∧s.af 2= .d (.ptr [.bool y.lo.neg,.ints .i64 (ai y.lo.m),.int .i64 y.lo.e,.bool y.hi.neg,.ints .i64 (ai y.hi.m),.int .i64 y.hi.e])∧s.af 12= .d (.recs 3 X)∧s.af 13= .d (.int .i64 2)∧s.af 14= .d (.int .i64 i)) rfl ?_ ?_
 ·simp (maxSteps:=2000000) only[↓ak,aj,↓reduceIte,reduceCtorEq,Nat.reduceEqDiff,Nat.reduceLeDiff,Nat.reduceSub,Nat.reduceAdd,Int.reduceToNat,Nat.reducePow,Int.reducePow,Int.reduceLE,Int.reduceLT,IntKind.bits,h0,h2,dk,dC,dH,akP,aiQ,aiP,Int.toNat_natCast,xv,w3]
  first|done|omega
 clear h0 h2 dk dC dH
 rintro s ⟨aI,a9,h0,h2,dk,dC,dH⟩
 refine mg (fun s=>s.af 22= .d (.recs 3 Y)∧s.af 23= .d (.int .i64 2)∧s.af 24= .d (.int .i64 0)∧s.af 5= .box 5 0∧s.aw 5=some ⟨false,false,.cells [.d (.bool u.neg),.d (.ints .i64 (ai u.m)),.d (.int .i64 u.e)]⟩∧s.af 0= .c6 L∧s.af 2= .d (.ptr [.bool y.lo.neg,.ints .i64 (ai y.lo.m),.int .i64 y.lo.e,.bool y.hi.neg,.ints .i64 (ai y.hi.m),.int .i64 y.hi.e])∧s.af 12= .d (.recs 3 X)∧s.af 13= .d (.int .i64 2)∧s.af 14= .d (.int .i64 i)) rfl ?_ ?_
 ·simp (maxSteps:=2000000) only[↓ak,aj,↓reduceIte,reduceCtorEq,Nat.reduceEqDiff,Nat.reduceLeDiff,Nat.reduceSub,Nat.reduceAdd,Int.reduceToNat,Nat.reducePow,Int.reducePow,Int.reduceLE,Int.reduceLT,IntKind.bits,h0,h2,dk,dC,dH,aI,a9,hg]
  first|done|rfl
 clear h0 h2 dk dC dH aI a9
 rintro s ⟨hC,hD,fJ,aI,a9,h0,h2,dk,dC,dH⟩
 refine wU ?_
 refine Eg (fun z s=>∃j:Nat,j≤2∧z=⟨2*i+j,true⟩∧s.af 22= .d (.recs 3 Y)∧s.af 23= .d (.int .i64 2)∧s.af 24= .d (.int .i64 j)∧m8 u s∧s.af 0= .c6 L∧s.af 2= .d (.ptr [.bool y.lo.neg,.ints .i64 (ai y.lo.m),.int .i64 y.lo.e,.bool y.hi.neg,.ints .i64 (ai y.hi.m),.int .i64 y.hi.e])∧s.af 12= .d (.recs 3 X)∧s.af 13= .d (.int .i64 2)∧s.af 14= .d (.int .i64 i)) (fun z _=>4 - z.k) ⟨0,by omega,rfl,hC,hD,fJ,⟨aI,_,a9⟩,h0,h2,dk,dC,dH⟩ ?_
 clear h0 h2 dk dC dH aI a9 hC hD fJ
 rintro z s ⟨j,az,rfl,hC,hD,fJ,aI,h0,h2,dk,dC,dH⟩
 refine mg (fun s=>s.af 25= .d (.bool (decide ((j:Int)<2)))∧s.af 22= .d (.recs 3 Y)∧s.af 23= .d (.int .i64 2)∧s.af 24= .d (.int .i64 j)∧m8 u s∧s.af 0= .c6 L∧s.af 2= .d (.ptr [.bool y.lo.neg,.ints .i64 (ai y.lo.m),.int .i64 y.lo.e,.bool y.hi.neg,.ints .i64 (ai y.hi.m),.int .i64 y.hi.e])∧s.af 12= .d (.recs 3 X)∧s.af 13= .d (.int .i64 2)∧s.af 14= .d (.int .i64 i)) rfl ?_ ?_
 ·simp (maxSteps:=2000000) only[↓ak,aj,↓reduceIte,reduceCtorEq,Nat.reduceEqDiff,Nat.reduceLeDiff,Nat.reduceSub,Nat.reduceAdd,Int.reduceToNat,Nat.reducePow,Int.reducePow,Int.reduceLE,Int.reduceLT,IntKind.bits,h0,h2,dk,dC,dH,hC,hD,fJ]
  exact aI
 clear h0 h2 dk dC dH hC hD fJ aI
 rintro s ⟨mT,hC,hD,fJ,aI,h0,h2,dk,dC,dH⟩
 by_cases zi:(j:Int)<2
 rotate_left
 ·have yq:j=2:=by omega
  subst yq
  rw[decide_eq_false zi]at mT
  refine mg (fun _=>False) rfl ?_ (fun s h=>h.elim)
  simp (maxSteps:=2000000) only[↓ak,aj,↓reduceIte,reduceCtorEq,Nat.reduceEqDiff,Nat.reduceLeDiff,Nat.reduceSub,Nat.reduceAdd,Int.reduceToNat,Nat.reducePow,Int.reducePow,Int.reduceLE,Int.reduceLT,IntKind.bits,mT,h0,h2,dk,dC,dH]
 rw[decide_eq_true zi]at mT
 have alR:j<2:=by omega
 refine mg (fun s=>s.af 22= .d (.recs 3 Y)∧s.af 23= .d (.int .i64 2)∧s.af 24= .d (.int .i64 j)∧m8 u s∧s.af 0= .c6 L∧s.af 2= .d (.ptr [.bool y.lo.neg,.ints .i64 (ai y.lo.m),.int .i64 y.lo.e,.bool y.hi.neg,.ints .i64 (ai y.hi.m),.int .i64 y.hi.e])∧s.af 12= .d (.recs 3 X)∧s.af 13= .d (.int .i64 2)∧s.af 14= .d (.int .i64 i)) rfl ?_ ?_
 ·simp (maxSteps:=2000000) only[↓ak,aj,↓reduceIte,reduceCtorEq,Nat.reduceEqDiff,Nat.reduceLeDiff,Nat.reduceSub,Nat.reduceAdd,Int.reduceToNat,Nat.reducePow,Int.reducePow,Int.reduceLE,Int.reduceLT,IntKind.bits,mT,h0,h2,dk,dC,dH,hC,hD,fJ]
  exact aI
 clear h0 h2 dk dC dH hC hD fJ aI mT
 rintro s ⟨hC,hD,fJ,aI,h0,h2,dk,dC,dH⟩
 obtain⟨v,aA⟩:∃v:a3,v=if (2*i+j) % 2=0 then y.lo else y.hi:=⟨_,rfl⟩
 have aiR:cv v:=by rw[aA];split;exact hy.1;exact hy.2
 have aiS:Y.getD j []=[.bool v.neg,.ints .i64 (ai v.m),.int .i64 v.e]:=by
  rw[hg,aA]
  rcases (by omega:j=0∨j=1)with rfl|rfl
  ·rw[if_pos (by omega)];rfl
  ·rw[if_neg (by omega)];rfl
 have aiT:j<Y.length:=by omega
 have akQ:(j:Int)<Y.length:=by omega
 have y3:E (2*i+j)=some [aR (cH u v)]:=by
  rw[dQ _ (by omega),hu,aA]
  unfold uU
  have:(2*i+j<2)↔(2*i<2):=by omega
  simp only[this]
 refine uR (fun z s=>z=⟨2*i+j+1,true⟩∧s.af 22= .d (.recs 3 Y)∧s.af 23= .d (.int .i64 2)∧s.af 24= .d (.int .i64 j)∧m8 u s∧s.af 0= .c6 L∧s.af 2= .d (.ptr [.bool y.lo.neg,.ints .i64 (ai y.lo.m),.int .i64 y.lo.e,.bool y.hi.neg,.ints .i64 (ai y.hi.m),.int .i64 y.hi.e])∧s.af 12= .d (.recs 3 X)∧s.af 13= .d (.int .i64 2)∧s.af 14= .d (.int .i64 i)) ?_ ?_
 rotate_left
 ·clear h0 h2 dk dC dH hC hD fJ aI
  rintro z s ⟨rfl,hC,hD,fJ,aI,h0,h2,dk,dC,dH⟩
  refine kA _ rfl ?_
  obtain⟨aI,dx,a9⟩:=aI
  simp (maxSteps:=2000000) only[↓ak,aj,↓reduceIte,reduceCtorEq,Nat.reduceEqDiff,Nat.reduceLeDiff,Nat.reduceSub,Nat.reduceAdd,Int.reduceToNat,Nat.reducePow,Int.reducePow,Int.reduceLE,Int.reduceLT,IntKind.bits,h0,h2,dk,dC,dH,hC,hD,fJ,aI,a9,m8]
  exact⟨by simp only[aG];omega,⟨j+1,by omega,rfl,rfl,_,rfl⟩,by omega⟩
 refine wU ?_
 refine mg (fun s=>s.af 7= .box 7 0∧s.aw 7=some ⟨false,false,.cells [.d (.bool v.neg),.d (.ints .i64 (ai v.m)),.d (.int .i64 v.e)]⟩∧s.af 22= .d (.recs 3 Y)∧s.af 23= .d (.int .i64 2)∧s.af 24= .d (.int .i64 j)∧m8 u s∧s.af 0= .c6 L∧s.af 2= .d (.ptr [.bool y.lo.neg,.ints .i64 (ai y.lo.m),.int .i64 y.lo.e,.bool y.hi.neg,.ints .i64 (ai y.hi.m),.int .i64 y.hi.e])∧s.af 12= .d (.recs 3 X)∧s.af 13= .d (.int .i64 2)∧s.af 14= .d (.int .i64 i)) rfl ?_ ?_
 ·obtain⟨aI,dx,a9⟩:=aI
  simp (maxSteps:=2000000) only[↓ak,aj,↓reduceIte,reduceCtorEq,Nat.reduceEqDiff,Nat.reduceLeDiff,Nat.reduceSub,Nat.reduceAdd,Int.reduceToNat,Nat.reducePow,Int.reducePow,Int.reduceLE,Int.reduceLT,IntKind.bits,h0,h2,dk,dC,dH,hC,hD,fJ,aI,a9,akQ,aiT,aiS,Int.toNat_natCast,xv,w3,m8]
  ((repeat' apply And.intro)<;>first|assumption|with_reducible rfl|omega|(simp only[aG];omega)|exact⟨_,rfl⟩|exact⟨_,_,_,rfl⟩|exact⟨_,_,_,_,_,_,rfl⟩)
 clear h0 h2 dk dC dH hC hD fJ aI
 rintro s ⟨a4,cz,hC,hD,fJ,aI,h0,h2,dk,dC,dH⟩
 have akR:pR.own=false:=rfl
 have pm:pR.pre [.agg [.bool u.neg,.ints .i64 (ai u.m),.int .i64 u.e],.agg [.bool v.neg,.ints .i64 (ai v.m),.int .i64 v.e]]:=⟨u,v,rfl,aiO,aiR⟩
 have zm:pR.res [.agg [.bool u.neg,.ints .i64 (ai u.m),.int .i64 u.e],.agg [.bool v.neg,.ints .i64 (ai v.m),.int .i64 v.e]]=aR (cH u v):=by simp only[pR,b0]
 obtain⟨p,aS⟩:∃p,p=cH u v:=⟨_,rfl⟩
 rw[←aS]at zm y3
 refine uR (fun z s=>(z=⟨2*i+j+1,true⟩∧s.af 33= .d (.bool false)∧s.af 22= .d (.recs 3 Y)∧s.af 23= .d (.int .i64 2)∧s.af 24= .d (.int .i64 j)∧m8 u s∧s.af 0= .c6 L∧s.af 2= .d (.ptr [.bool y.lo.neg,.ints .i64 (ai y.lo.m),.int .i64 y.lo.e,.bool y.hi.neg,.ints .i64 (ai y.hi.m),.int .i64 y.hi.e])∧s.af 12= .d (.recs 3 X)∧s.af 13= .d (.int .i64 2)∧s.af 14= .d (.int .i64 i))∨(z=⟨2*i+j,false⟩∧s.af 33= .d (.bool true))) ?_ ?_
 rotate_left
 ·clear h0 h2 dk dC dH hC hD fJ aI a4 cz
  rintro z s (⟨rfl,Kw,hC,hD,fJ,aI,h0,h2,dk,dC,dH⟩|⟨rfl,Kw⟩)
  ·refine kA _ rfl ?_
   obtain⟨aI,dx,a9⟩:=aI
   simp (maxSteps:=2000000) only[↓ak,aj,↓reduceIte,reduceCtorEq,Nat.reduceEqDiff,Nat.reduceLeDiff,Nat.reduceSub,Nat.reduceAdd,Int.reduceToNat,Nat.reducePow,Int.reducePow,Int.reduceLE,Int.reduceLT,IntKind.bits,Kw,h0,h2,dk,dC,dH,hC,hD,fJ,aI,a9,m8]
   ((repeat' apply And.intro)<;>first|assumption|with_reducible rfl|omega|(simp only[aG];omega)|exact⟨_,rfl⟩|exact⟨_,_,_,rfl⟩|exact⟨_,_,_,_,_,_,rfl⟩)
  ·refine kA _ rfl ?_
   simp (maxSteps:=2000000) only[↓ak,aj,↓reduceIte,reduceCtorEq,Nat.reduceEqDiff,Nat.reduceLeDiff,Nat.reduceSub,Nat.reduceAdd,Int.reduceToNat,Nat.reducePow,Int.reducePow,Int.reduceLE,Int.reduceLT,IntKind.bits,Kw]
 show gC Γ E M L _ _ _ _
 refine Na 4 (fun s=>s.af 28= .c6 L∧s.af 31= .agg [.d (.bool p.neg),.d (.ints .i64 (ai p.m)),.d (.int .i64 p.e)]∧s.af 22= .d (.recs 3 Y)∧s.af 23= .d (.int .i64 2)∧s.af 24= .d (.int .i64 j)∧m8 u s∧s.af 0= .c6 L∧s.af 2= .d (.ptr [.bool y.lo.neg,.ints .i64 (ai y.lo.m),.int .i64 y.lo.e,.bool y.hi.neg,.ints .i64 (ai y.hi.m),.int .i64 y.hi.e])∧s.af 12= .d (.recs 3 X)∧s.af 13= .d (.int .i64 2)∧s.af 14= .d (.int .i64 i)) rfl ?_ ?_
 ·simp only[List.take_succ_cons,List.take_zero]
  obtain⟨aI,dx,a9⟩:=aI
  simp (maxSteps:=2000000) only[↓ak,aj,↓reduceIte,reduceCtorEq,Nat.reduceEqDiff,Nat.reduceLeDiff,Nat.reduceSub,Nat.reduceAdd,Int.reduceToNat,Nat.reducePow,Int.reducePow,Int.reduceLE,Int.reduceLT,IntKind.bits,h0,h2,dk,dC,dH,hC,hD,fJ,aI,a9,a4,cz,f109,afN,akR,pm,zm,aR,xv,w3,m8]
  ((repeat' apply And.intro)<;>first|assumption|with_reducible rfl|omega|(simp only[aG];omega)|exact⟨_,rfl⟩|exact⟨_,_,_,rfl⟩|exact⟨_,_,_,_,_,_,rfl⟩)
 clear h0 h2 dk dC dH hC hD fJ aI a4 cz
 rintro s ⟨y4,aiU,hC,hD,fJ,aI,h0,h2,dk,dC,dH⟩
 show gC Γ E M L _ [⟨some 32,.gj (.t 28) [.t 31],none⟩,⟨some 33,.un .not (.t 32),none⟩] _ _
 have U7:ch s [.t 31]=[.agg [.d (.bool p.neg),.d (.ints .i64 (ai p.m)),.d (.int .i64 p.e)]]:=by simp only[ch,List.map_cons,List.map_nil,St.aT,aiU]
 refine L8 (ds:=[aR p]) y4 (by rw[U7];rfl) (by rw[U7];rfl) rfl y3 (fun _=> ?_) ?_
 ·have l4:=Nb h0
  have bw:=qU h2
  have U8:=qU dk
  have U9:=qU dC
  have Va:=qU dH
  have Vb:=qU hC
  have Vc:=qU hD
  have Vd:=qU fJ
  obtain⟨aI,dx,a9⟩:=aI
  have ku:=Nc aI a9 rfl
  have Du:=Oo a9 rfl
  generalize s.still=df at l4 bw U8 U9 Va Vb Vc Vd ku Du⊢
  refine sv rfl ?_
  simp (maxSteps:=2000000) only[↓ak,aj,↓reduceIte,reduceCtorEq,Nat.reduceEqDiff,Nat.reduceLeDiff,Nat.reduceSub,Nat.reduceAdd,Int.reduceToNat,Nat.reducePow,Int.reducePow,Int.reduceLE,Int.reduceLT,IntKind.bits,l4,bw,U8,U9,Va,Vb,Vc,Vd,ku,Du,Bool.not_true,m8]
  first|done|(refine .inl ⟨_,rfl⟩;done)|simp
 ·refine sv rfl ?_
  simp (maxSteps:=2000000) only[↓ak,aj,↓reduceIte,reduceCtorEq,Nat.reduceEqDiff,Nat.reduceLeDiff,Nat.reduceSub,Nat.reduceAdd,Int.reduceToNat,Nat.reducePow,Int.reducePow,Int.reduceLE,Int.reduceLT,IntKind.bits,Bool.not_false]
  first|done|simp
def h9 (x y:bD):List a3:=[cH x.lo y.lo,cH x.lo y.hi,cH x.hi y.lo,cH x.hi y.hi]
def cO (x y:bD):bD:=⟨dG fi (cH x.lo y.lo) [cH x.lo y.hi,cH x.hi y.lo,cH x.hi y.hi],dG fj (cH x.lo y.lo) [cH x.lo y.hi,cH x.hi y.lo,cH x.hi y.hi]⟩
theorem aaQ (x y:bD) {k:Nat} (ad:k<4):((h9 x y).take k).map hY++[hY (uU x y k)]=((h9 x y).take (k+1)).map hY:=by
 rcases (by omega:k=0∨k=1∨k=2∨k=3)with rfl|rfl|rfl|rfl<;>rfl
def uu (x:a3):Prop:=x.win (-25000) 25000
theorem xx {x y:a3} (ah:uu x) (hy:uu y):cv (cH x y):=w5 ah hy
def wk (i:bD):Prop:=uu i.lo∧uu i.hi
theorem va {x:a3} (h:uu x):cv x:=win.up h (by omega) (by omega)
def tS:bq where
 pre:=fun ds=>∃x y:bD,ds=[aQ x,aQ y]∧wk x∧wk y
 res:=fun ds=>match ds with
  |[p,q]=>aQ (cO (fv p) (fv q))
  |_=> .nilp
def B3:Nat→Option kx:=fun f=>if f=108 then some oK else none
theorem aiV (Γ:Env) (f70:Γ.fn 70=some rZ) (aiW:Γ.mt 70=none) (f71:Γ.fn 71=some oX) (aiX:Γ.mt 71=none) (f72:Γ.fn 72=some oY) (aiY:Γ.mt 72=none) (ds:List D) (h:tS.pre ds):vm Γ B3 IJ IK ds fun d=>d=tS.res ds:=by
 obtain⟨x,y,rfl,⟨ez,e2⟩,⟨iu,mW⟩⟩:=h
 have cq:tS.res [aQ x,aQ y]=aQ (cO x y):=by simp only[tS,aQ,a7,dw]
 rw[cq]
 unfold vm IJ
 refine pA (fun s=>s.af 2= .box 2 0∧s.aw 2=some ⟨false,false,.cells [.d (.bool x.lo.neg),.d (.ints .i64 (ai x.lo.m)),.d (.int .i64 x.lo.e),.d (.bool x.hi.neg),.d (.ints .i64 (ai x.hi.m)),.d (.int .i64 x.hi.e)]⟩∧s.af 3= .box 3 0∧s.aw 3=some ⟨false,false,.cells [.d (.bool y.lo.neg),.d (.ints .i64 (ai y.lo.m)),.d (.int .i64 y.lo.e),.d (.bool y.hi.neg),.d (.ints .i64 (ai y.hi.m)),.d (.int .i64 y.hi.e)]⟩∧s.af 4= .box 4 0∧∃bs bf bd ev ec ed,s.aw 4=some ⟨false,false,.cells [.d bs,.d bf,.d bd,.d ev,.d ec,.d ed]⟩) ?_ ?_
 ·show bZ Γ _ _ _
  simp (maxSteps:=2000000) only[↓ak,aj,↓reduceIte,reduceCtorEq,Nat.reduceEqDiff,Nat.reduceLeDiff,Nat.reduceSub,Nat.reduceAdd,Int.reduceToNat,Nat.reducePow,Int.reducePow,Int.reduceLE,Int.reduceLT,IntKind.bits,aQ]
  exact⟨_,_,_,_,_,_,rfl⟩
 rintro s ⟨h2,aY,al,aW,aE,bs,bf,bd,ev,ec,ed,aU⟩
 refine pA (fun s=>s.af 5= .box 5 0∧s.aw 5=some ⟨false,false,.cells [.own 500005 0 0]⟩∧s.aw 500005=some ⟨false,false,.recs 3 []⟩∧s.af 2= .box 2 0∧s.aw 2=some ⟨false,false,.cells [.d (.bool x.lo.neg),.d (.ints .i64 (ai x.lo.m)),.d (.int .i64 x.lo.e),.d (.bool x.hi.neg),.d (.ints .i64 (ai x.hi.m)),.d (.int .i64 x.hi.e)]⟩∧s.af 3= .box 3 0∧s.aw 3=some ⟨false,false,.cells [.d (.bool y.lo.neg),.d (.ints .i64 (ai y.lo.m)),.d (.int .i64 y.lo.e),.d (.bool y.hi.neg),.d (.ints .i64 (ai y.hi.m)),.d (.int .i64 y.hi.e)]⟩∧s.af 4= .box 4 0∧∃bs bf bd ev ec ed,s.aw 4=some ⟨false,false,.cells [.d bs,.d bf,.d bd,.d ev,.d ec,.d ed]⟩) ?_ ?_
 ·simp only[g7]
  simp (maxSteps:=2000000) only[↓ak,aj,↓reduceIte,reduceCtorEq,Nat.reduceEqDiff,Nat.reduceLeDiff,Nat.reduceSub,Nat.reduceAdd,Int.reduceToNat,Nat.reducePow,Int.reducePow,Int.reduceLE,Int.reduceLT,IntKind.bits,h2,aY,al,aW,aE,aU]
  exact⟨_,_,_,_,_,_,rfl⟩
 clear h2 aY al aW aE aU
 rintro s ⟨aI,a9,mZ,h2,aY,al,aW,aE,bs,bf,bd,ev,ec,ed,aU⟩
 obtain⟨rows,jf⟩:∃rows,rows=(h9 x y).map hY:=⟨_,rfl⟩
 refine pA (fun s=>s.af 4= .box 4 0∧(∃bs bf bd ev ec ed,s.aw 4=some ⟨false,false,.cells [.d bs,.d bf,.d bd,.d ev,.d ec,.d ed]⟩)∧s.af 5= .box 5 0∧s.aw 5=some ⟨false,false,.cells [.d (.recs 3 rows)]⟩) ?_ ?_
 ·refine pA (fun s=>s.af 9= .d (.fn 108 [] [.ptr (gU x),.ptr (gU y)])∧s.af 5= .box 5 0∧s.aw 5=some ⟨false,false,.cells [.own 500005 0 0]⟩∧s.aw 500005=some ⟨false,false,.recs 3 []⟩∧s.af 4= .box 4 0∧∃bs bf bd ev ec ed,s.aw 4=some ⟨false,false,.cells [.d bs,.d bf,.d bd,.d ev,.d ec,.d ed]⟩) ?_ ?_
  ·show bZ Γ _ _ _
   have sg:rZ.own=false:=rfl
   have hj:rZ.pre [aQ x,aQ y]:=⟨x,y,rfl⟩
   have rc:rZ.res [aQ x,aQ y]= .fn 108 [] [.ptr (gU x),.ptr (gU y)]:=rfl
   simp only[aQ,a7]at hj rc
   simp (maxSteps:=2000000) only[↓ak,aj,↓reduceIte,reduceCtorEq,Nat.reduceEqDiff,Nat.reduceLeDiff,Nat.reduceSub,Nat.reduceAdd,Int.reduceToNat,Nat.reducePow,Int.reducePow,Int.reduceLE,Int.reduceLT,IntKind.bits,h2,aY,al,aW,aE,aU,aI,a9,mZ,f70,aiW,sg,hj,rc,gU]
   exact⟨_,_,_,_,_,_,rfl⟩
  clear h2 aY al aW aE aU aI a9 mZ
  rintro s ⟨bM,aI,a9,mZ,aE,bs,bf,bd,ev,ec,ed,aU⟩
  have jy:B3 108=some oK:=rfl
  have x4:∀k,oK.seq [.ptr (gU x),.ptr (gU y)] k=if k<4 then some [aR (uU x y k)]else none:=fun k=>by simp only[oK,Rb]
  simp only[g7,St.aT,bM,jy]
  refine⟨⟨x,y,rfl,⟨va ez,va e2⟩,⟨va iu,va mW⟩⟩,fun k s=>k≤4∧s.af 5= .box 5 0∧s.aw 5=some ⟨false,false,.cells [.own 500005 0 k]⟩∧s.aw 500005=some ⟨false,false,.recs 3 (((h9 x y).take k).map hY)⟩∧s.af 4= .box 4 0∧∃bs bf bd ev ec ed,s.aw 4=some ⟨false,false,.cells [.d bs,.d bf,.d bd,.d ev,.d ec,.d ed]⟩,5,by omega,⟨by omega,?_,a9,mZ,?_,_,_,_,_,_,_,aU⟩,?_,?_⟩
  ·simp only[St.only];rw[if_neg (by decide)];exact aI
  ·simp only[St.only];rw[if_neg (by decide)];exact aE
  ·clear bM aI a9 mZ aE aU
   rintro k xs s ad jU ⟨aiZ,aI,a9,mZ,aE,bs,bf,bd,ev,ec,ed,aU⟩
   rw[x4]at jU
   split at jU
   rotate_left
   ·cases jU
   rename_i afO
   simp only[Option.some.injEq]at jU
   subst jU
   refine⟨rfl,?_⟩
   obtain⟨p,aS⟩:∃p,p=uU x y k:=⟨_,rfl⟩
   rw[←aS]
   have iI:=aaQ x y afO
   rw[←aS]at iI
   obtain⟨R,dF⟩:∃R,R=((h9 x y).take k).map hY:=⟨_,rfl⟩
   have Ve:R.length=k:=by
    rw[dF,List.length_map,List.length_take,show (h9 x y).length=4 from rfl];omega
   rw[←dF]at iI mZ
   simp only[xT]
   have CW:((s.put (some 10) (cX (aR p))).af 10)= .agg [.d (.bool p.neg),.d (.ints .i64 (ai p.m)),.d (.int .i64 p.e)]:=rfl
   have dx:(s.put (some 10) (cX (aR p))).af 5= .box 5 0:=aI
   have cx:(s.put (some 10) (cX (aR p))).af 4= .box 4 0:=aE
   have f5:(s.put (some 10) (cX (aR p))).aw 5=some ⟨false,false,.cells [.own 500005 0 k]⟩:=a9
   have f50:(s.put (some 10) (cX (aR p))).aw 500005=some ⟨false,false,.recs 3 R⟩:=mZ
   have f4:(s.put (some 10) (cX (aR p))).aw 4=some ⟨false,false,.cells [.d bs,.d bf,.d bd,.d ev,.d ec,.d ed]⟩:=aU
   generalize s.put (some 10) (cX (aR p))=t at CW dx cx f5 f50 f4⊢
   clear aI a9 mZ aE aU s
   have akS:sD [hY p]=true:=rfl
   simp only[hY]at akS iI
   simp (maxSteps:=2000000) only[↓ak,aj,↓reduceIte,reduceCtorEq,Nat.reduceEqDiff,Nat.reduceLeDiff,Nat.reduceSub,Nat.reduceAdd,Int.reduceToNat,Nat.reducePow,Int.reducePow,Int.reduceLE,Int.reduceLT,IntKind.bits,CW,dx,cx,f5,f50,f4,AK,AL,List.contains_cons,List.contains_nil,Nat.reduceBEq,Nat.reduceBeqDiff,Bool.or_false,Bool.false_eq_true]
   have aB:(R++[[D.bool p.neg,D.ints IntKind.i64 (ai p.m),D.int IntKind.i64 p.e]]).length=k+1:=by rw[List.length_append,Ve];rfl
   rw[aB,iI]
   exact⟨Ve.symm,by simp only[bL];omega,⟨by omega,rfl,rfl,_,_,_,_,_,_,rfl⟩,by omega⟩
  ·rintro k s jU ⟨aiZ,aI,a9,mZ,aE,bs,bf,bd,ev,ec,ed,aU⟩
   rw[x4]at jU
   have ad:k=4:=by
    split at jU
    ·cases jU
    ·omega
   subst ad
   refine⟨some 500005,⟨_,mZ,rfl⟩,?_⟩
   have aC:toD s (.own 500005 0 4)=some (.recs 3 rows):=by
    simp only[toD,mZ,BC.part]
    rw[if_pos (by simp[h9])]
    rw[jf];rfl
   refine⟨?_,⟨bs,bf,bd,ev,ec,ed,?_⟩,?_,?_⟩
   ·simp only[St.gP,aE,ag.gP];rw[if_neg (by decide)]
   ·simp only[St.gP,aU]
    rfl
   ·simp only[St.gP,aI,ag.gP];rw[if_neg (by decide)]
   ·simp only[St.gP,a9,Option.map_some,b1.fm,BC.fm,List.map_cons,List.map_nil,ag.gP,aC,cX]
    rfl
 ·rintro s ⟨aE,⟨bs,bf,bd,ev,ec,ed,aU⟩,aI,a9⟩
  show bZ Γ _ _ _
  have DA:oX.own=false:=rfl
  have Le:oY.own=false:=rfl
  have hW:∀z∈h9 x y,cv z:=fun z bg=>by
   simp only[h9,List.mem_cons,List.not_mem_nil,or_false]at bg
   rcases bg with rfl|rfl|rfl|rfl
   ·exact xx ez iu
   ·exact xx ez mW
   ·exact xx e2 iu
   ·exact xx e2 mW
  have pi:oX.pre [.recs 3 rows,.fn 57 [] []]:=⟨cH x.lo y.lo,[cH x.lo y.hi,cH x.hi y.lo,cH x.hi y.hi],by rw[jf];rfl,hW,by simp⟩
  have pa:oY.pre [.recs 3 rows,.fn 57 [] []]:=⟨cH x.lo y.lo,[cH x.lo y.hi,cH x.hi y.lo,cH x.hi y.hi],by rw[jf];rfl,hW,by simp⟩
  obtain⟨m,hm⟩:∃m,m=cO x y:=⟨_,rfl⟩
  have aD:oX.res [.recs 3 rows,.fn 57 [] []]=aR m.lo:=by
   simp only[oX,jf,xw,h9,hm,cO]
  have jC:oY.res [.recs 3 rows,.fn 57 [] []]=aR m.hi:=by
   simp only[oY,jf,xw,h9,hm,cO]
  rw[←hm]
  simp (maxSteps:=2000000) only[↓ak,aj,↓reduceIte,reduceCtorEq,Nat.reduceEqDiff,Nat.reduceLeDiff,Nat.reduceSub,Nat.reduceAdd,Int.reduceToNat,Nat.reducePow,Int.reducePow,Int.reduceLE,Int.reduceLT,IntKind.bits,IK,aQ,aR,aE,aU,aI,a9,f71,aiX,f72,aiY,DA,Le,pi,pa,aD,jC]
def pU:bq where
 pre:=fun ds=>∃m:Nat,ds=[a7 m]∧(ai m).length≤8000
 res:=fun ds=>match ds with
  |[.ints _ xs]=>a7 (aX (val xs))
  |_=> .nilp
theorem OI {R m k:Nat} (h1:R*R≤m) (h2:m<(R+2^(k+1))*(R+2^(k+1))):
 ((R+2^k)*(R+2^k)≤m→m<(R+2^k+2^k)*(R+2^k+2^k)):=fun _=>by
 rw[show R+2^k+2^k=R+2^(k+1)by rw[Nat.pow_succ];omega];exact h2
theorem acX {R m:Nat} (h:R*R≤m):2*bc R≤bc m+1:=by
 by_cases h0:R=0
 ·subst h0;rw[j2];omega
 ·have:=Z8 h0 h0
  have:=qO h
  omega
theorem afP (Γ:Env) (tm:Γ.has 104 jk) (tT:Γ.has 91 h3) (oZ:Γ.has 89 hx) (tU:Γ.has 94 kZ) (C2:Γ.has 92 fh) (ds:List D) (h:pU.pre ds):bH Γ Gs Gt ds fun d=>d=pU.res ds:=by
 obtain⟨m,rfl,aB⟩:=h
 have qz:jk.pre [.ints .i64 (ai m)]:=⟨m,rfl,by omega⟩
 have qA:jk.res [.ints .i64 (ai m)]= .int .i64 (bc m):=by simp only[jk,bO]
 have amq:=sr m
 obtain⟨K,bV⟩:∃K:Nat,(bc m+1) / 2=K:=⟨_,rfl⟩
 have aZ:((bc m:Int)+1).tdiv 2=K:=by rw[Int.tdiv_eq_ediv_of_nonneg (by omega)];omega
 have c8:ai 1=[1]:=by decide+kernel
 have cq:pU.res [a7 m]=a7 (aX m):=by simp only[pU,bO,a7]
 rw[cq]
 simp (maxSteps:=2000000) only[↓ak,aj,↓reduceIte,reduceCtorEq,Nat.reduceEqDiff,Nat.reduceLeDiff,Nat.reduceSub,Nat.reduceAdd,Int.reduceToNat,Nat.reducePow,Int.reducePow,Int.reduceLE,Int.reduceLT,IntKind.bits,Gs,Gt]
 refine cc (fun s=>∃R:Nat,R*R≤m∧m<(R+1)*(R+1)∧(s.af 3= .d (.ints .i64 (ai R))∨R=0∧s.af 3= .own 3 0 0∧∃z,s.aw 3=some ⟨z,false,.ints .i64 []⟩)) ?_ ?_
 ·simp (maxSteps:=2000000) only[↓ak,aj,↓reduceIte,reduceCtorEq,Nat.reduceEqDiff,Nat.reduceLeDiff,Nat.reduceSub,Nat.reduceAdd,Int.reduceToNat,Nat.reducePow,Int.reducePow,Int.reduceLE,Int.reduceLT,IntKind.bits,tm,qz,qA,aZ]
  repeat (refine And.intro (by first|omega|(simp only[aG];omega)|(simp only[aG]at*;omega)|(simp only[List.length_append,List.length_cons,List.length_nil,List.length_set,bL];omega)) ?_)
  refine eC (fun s=>∃(R:Nat) (k:Int),s.af 0= .d (.ints .i64 (ai m))∧s.af 4= .d (.int .i64 k)∧-1≤k∧k≤K∧R*R≤m∧m<(R+2^(k+1).toNat)*(R+2^(k+1).toNat)∧(s.af 3= .d (.ints .i64 (ai R))∨R=0∧s.af 3= .own 3 0 0∧∃z,s.aw 3=some ⟨z,false,.ints .i64 []⟩)) (fun s=>match s.af 4 with| .d (.int _ k)=>(k+1).toNat|_=>0) ?_ ?_
  ·refine⟨0,K,?_⟩
   simp (maxSteps:=2000000) only[↓ak,aj,↓reduceIte,reduceCtorEq,Nat.reduceEqDiff,Nat.reduceLeDiff,Nat.reduceSub,Nat.reduceAdd,Int.reduceToNat,Nat.reducePow,Int.reducePow,Int.reduceLE,Int.reduceLT,IntKind.bits]
   refine⟨by omega,Int.le_refl _,Nat.zero_le _,?_,_,rfl⟩
   rw[←Nat.pow_add]
   exact Nat.lt_of_lt_of_le (jb m) (Nat.pow_le_pow_right (by decide) (by omega))
  ·rintro s ⟨R,k,h0,aE,ad,bY,dF,hm,al⟩
   by_cases c:k≥0
   ·obtain⟨j,rfl⟩:∃j:Nat,k=j:=⟨k.toNat,by omega⟩
    have a1:((j:Int)+1).toNat=j+1:=by omega
    have a6:((j:Int) - 1+1).toNat=j:=by omega
    rw[a1]at hm
    obtain⟨T,b5⟩:∃T,T=R+2^j:=⟨_,rfl⟩
    have YV:=acX dF
    have h2:bc (2^j)=j+1:=by have:=j3 (n:=1) (by decide) j;rw[Nat.one_mul]at this;rw[this,show bc 1=1 from rfl];omega
    have zl:bc T≤K+2:=by
     have:=sw R (2^j)
     rw[b5]
     omega
    have Li:=gy T
    have YW:=gy R
    have amr:=gy (2^j)
    have n8:h3.pre [.ints .i64 [1],.int .i64 j]:=⟨[1],j,rfl,by rw[←c8];exact cN 1,by decide,by omega⟩
    have n9:h3.res [.ints .i64 [1],.int .i64 j]= .ints .i64 (ai (2^j)):=by simp only[h3,←c8,bO,Int.toNat_natCast,Nat.one_mul,a7]
    have pb:∀xs,xs=ai R→hx.pre [.ints .i64 xs,.ints .i64 (ai (2^j))]:=fun xs e=>by subst e;exact⟨_,_,rfl,cN _,cN _,by omega,by omega⟩
    have pc:∀xs,xs=ai R→hx.res [.ints .i64 xs,.ints .i64 (ai (2^j))]= .ints .i64 (ai T):=fun xs e=>by subst e;simp only[hx,bO,a7,b5]
    have alS:=uB T T
    have alT:=gy (T*T)
    have qB:kZ.pre [.ints .i64 (ai T),.ints .i64 (ai T)]:=⟨_,_,rfl,cN _,cN _,by omega,by omega⟩
    have wm:kZ.res [.ints .i64 (ai T),.ints .i64 (ai T)]= .ints .i64 (ai (T*T)):=by simp only[kZ,bO,a7]
    have kz:fh.pre [.ints .i64 (ai (T*T)),.ints .i64 (ai m)]:=⟨_,_,rfl,⟨_,rfl⟩,⟨_,rfl⟩,by omega,by omega⟩
    rcases al with al|⟨tV,al,z,aW⟩
    ·have pb:=pb _ rfl
     have pc:=pc _ rfl
     by_cases ld:T*T≤m
     ·have iZ:∃v:Int,v≤0∧fh.res [.ints .i64 (ai (T*T)),.ints .i64 (ai m)]= .int .i64 v:=by
       refine⟨if T*T<m then -1 else 0,by split<;>decide,?_⟩
       simp only[fh,bO]
       rw[if_neg (by omega:¬m<T*T)]
      obtain⟨v,aA,iZ⟩:=iZ
      simp (maxSteps:=2000000) only[↓ak,aj,↓reduceIte,reduceCtorEq,Nat.reduceEqDiff,Nat.reduceLeDiff,Nat.reduceSub,Nat.reduceAdd,Int.reduceToNat,Nat.reducePow,Int.reducePow,Int.reduceLE,Int.reduceLT,IntKind.bits,h0,aE,al,c,tT,n8,n9,oZ,pb,pc,tU,qB,wm,C2,kz,iZ,aA]
      exact⟨by simp only[aG];omega,⟨T,_,rfl,by omega,by omega,ld,by rw[a6,b5];exact OI dF hm (b5▸ld),rfl⟩,by omega⟩
     ·have iZ:∃v:Int,¬v≤0∧fh.res [.ints .i64 (ai (T*T)),.ints .i64 (ai m)]= .int .i64 v:=⟨1,by decide,by simp only[fh,bO];rw[if_neg (by omega),if_pos (by omega)]⟩
      obtain⟨v,aA,iZ⟩:=iZ
      simp (maxSteps:=2000000) only[↓ak,aj,↓reduceIte,reduceCtorEq,Nat.reduceEqDiff,Nat.reduceLeDiff,Nat.reduceSub,Nat.reduceAdd,Int.reduceToNat,Nat.reducePow,Int.reducePow,Int.reduceLE,Int.reduceLT,IntKind.bits,h0,aE,al,c,tT,n8,n9,oZ,pb,pc,tU,qB,wm,C2,kz,iZ,aA]
      exact⟨by simp only[aG];omega,⟨R,_,rfl,by omega,by omega,dF,by rw[a6,←b5];omega,rfl⟩,by omega⟩
    ·have pb:=pb [] (by rw[tV,gf])
     have pc:=pc [] (by rw[tV,gf])
     by_cases ld:T*T≤m
     ·have iZ:∃v:Int,v≤0∧fh.res [.ints .i64 (ai (T*T)),.ints .i64 (ai m)]= .int .i64 v:=by
       refine⟨if T*T<m then -1 else 0,by split<;>decide,?_⟩
       simp only[fh,bO]
       rw[if_neg (by omega:¬m<T*T)]
      obtain⟨v,aA,iZ⟩:=iZ
      simp (maxSteps:=2000000) only[↓ak,aj,↓reduceIte,reduceCtorEq,Nat.reduceEqDiff,Nat.reduceLeDiff,Nat.reduceSub,Nat.reduceAdd,Int.reduceToNat,Nat.reducePow,Int.reducePow,Int.reduceLE,Int.reduceLT,IntKind.bits,h0,aE,al,aW,c,tT,n8,n9,oZ,pb,pc,tU,qB,wm,C2,kz,iZ,aA]
      exact⟨by simp only[aG];omega,⟨T,_,rfl,by omega,by omega,ld,by rw[a6,b5];exact OI dF hm (b5▸ld),rfl⟩,by omega⟩
     ·have iZ:∃v:Int,¬v≤0∧fh.res [.ints .i64 (ai (T*T)),.ints .i64 (ai m)]= .int .i64 v:=⟨1,by decide,by simp only[fh,bO];rw[if_neg (by omega),if_pos (by omega)]⟩
      obtain⟨v,aA,iZ⟩:=iZ
      simp (maxSteps:=2000000) only[↓ak,aj,↓reduceIte,reduceCtorEq,Nat.reduceEqDiff,Nat.reduceLeDiff,Nat.reduceSub,Nat.reduceAdd,Int.reduceToNat,Nat.reducePow,Int.reducePow,Int.reduceLE,Int.reduceLT,IntKind.bits,h0,aE,al,aW,c,tT,n8,n9,oZ,pb,pc,tU,qB,wm,C2,kz,iZ,aA]
      exact⟨by simp only[aG];omega,⟨R,_,rfl,by omega,by omega,dF,by rw[a6,←b5];omega,tV,_,rfl⟩,by omega⟩
   ·simp (maxSteps:=2000000) only[↓ak,aj,↓reduceIte,reduceCtorEq,Nat.reduceEqDiff,Nat.reduceLeDiff,Nat.reduceSub,Nat.reduceAdd,Int.reduceToNat,Nat.reducePow,Int.reducePow,Int.reduceLE,Int.reduceLT,IntKind.bits,h0,aE,c]
    rw[show k= -1 by omega]at hm
    exact⟨R,dF,hm,al⟩
 ·rintro s ⟨R,h1,h2,al⟩
  rw[aaO h1 h2]
  rcases al with al|⟨rfl,al,z,aW⟩
  ·simp (maxSteps:=2000000) only[↓ak,aj,↓reduceIte,reduceCtorEq,Nat.reduceEqDiff,Nat.reduceLeDiff,Nat.reduceSub,Nat.reduceAdd,Int.reduceToNat,Nat.reducePow,Int.reducePow,Int.reduceLE,Int.reduceLT,IntKind.bits,al]
  ·simp (maxSteps:=2000000) only[↓ak,aj,↓reduceIte,reduceCtorEq,Nat.reduceEqDiff,Nat.reduceLeDiff,Nat.reduceSub,Nat.reduceAdd,Int.reduceToNat,Nat.reducePow,Int.reducePow,Int.reduceLE,Int.reduceLT,IntKind.bits,al,aW]
   rw[gf]
def m0:bq where
 pre:=fun ds=>∃(x:a3) (n:Int) (up:Bool),ds=[aR x,.int .i64 n,.bool up]∧cv x∧0≤n∧n≤100000
 res:=fun ds=>match ds with
  |[p,.int _ n,.bool up]=>aR (fg (dO p) n up)
  |_=> .nilp
theorem ai0 (Γ:Env) (tm:Γ.has 104 jk) (C3:Γ.has 88 jt) (oZ:Γ.has 89 hx) (n1:Γ.has 76 dE) (ds:List D) (h:m0.pre ds):bH Γ yC yD ds fun d=>d=m0.res ds:=by
 obtain⟨x,n,up,rfl,ah,dj,hz⟩:=h
 have ex:=iM ah
 have cP:=ie ah
 have aw:=kI ah
 have qz:jk.pre [.ints .i64 (ai x.m)]:=⟨x.m,rfl,by omega⟩
 have qA:jk.res [.ints .i64 (ai x.m)]= .int .i64 (bc x.m):=by simp only[jk,bO]
 have c8:ai 1=[1]:=by decide+kernel
 by_cases ad:(bc x.m:Int) - n≤0
 ·have aq:fg x n up=x:=by unfold fg;rw[if_pos ad]
  simp (maxSteps:=2000000) only[↓ak,aj,↓reduceIte,reduceCtorEq,Nat.reduceEqDiff,Nat.reduceLeDiff,Nat.reduceSub,Nat.reduceAdd,Int.reduceToNat,Nat.reducePow,Int.reducePow,Int.reduceLE,Int.reduceLT,IntKind.bits,yC,yD,m0,aR,b0,aq,tm,qz,qA,ad]
  first|done|(repeat (refine And.intro (by first|omega|(simp only[aG];omega)|(simp only[aG]at*;omega)|(simp only[List.length_append,List.length_cons,List.length_nil,List.length_set,bL];omega)) ?_);first|done|omega)
 ·obtain⟨k,kj⟩:∃k:Nat,(bc x.m:Int) - n=k:=⟨((bc x.m:Int) - n).toNat,by omega⟩
  have bY:¬(k:Int)≤0:=by omega
  obtain⟨M,cj⟩:∃M,M=x.m / 2^k:=⟨_,rfl⟩
  have ay:=As x.m k
  rw[←cj]at ay
  have zk:=gy M
  have n8:jt.pre [.ints .i64 (ai x.m),.int .i64 k]:=⟨_,_,rfl,cN _,by omega,by omega⟩
  have n9:jt.res [.ints .i64 (ai x.m),.int .i64 k]= .ints .i64 (ai M):=by simp only[jt,bO,Int.toNat_natCast,←cj,a7]
  have ain:=sw M 1
  have cf:bc 1=1:=rfl
  have aio:=gy (M+1)
  have pb:hx.pre [.ints .i64 (ai M),.ints .i64 [1]]:=⟨_,_,rfl,cN _,by rw[←c8];exact cN 1,by omega,by decide⟩
  have pc:hx.res [.ints .i64 (ai M),.ints .i64 [1]]= .ints .i64 (ai (M+1)):=by simp only[hx,←c8,bO,a7]
  have aq:fg x n up=mk x.neg (M+(if up=x.neg then 0 else 1)) (x.e+k):=by
   unfold fg
   rw[if_neg ad,kj,Int.toNat_natCast,←cj]
  have wo:∀q,q=M∨q=M+1→dE.pre [.bool x.neg,.ints .i64 (ai q),.int .i64 (x.e+k)]:=fun q aZ=>⟨_,q,_,rfl,by rcases aZ with rfl|rfl<;>omega,by omega,by omega⟩
  have YX:∀q,dE.res [.bool x.neg,.ints .i64 (ai q),.int .i64 (x.e+k)]=aR (mk x.neg q (x.e+k)):=fun q=>by simp only[dE,bO]
  by_cases hu:up=x.neg
  ·have iH:(up !=x.neg)=false:=by rw[hu];simp
   rw[if_pos hu,Nat.add_zero]at aq
   have wo:=wo M (.inl rfl)
   simp (maxSteps:=2000000) only[↓ak,aj,↓reduceIte,reduceCtorEq,Nat.reduceEqDiff,Nat.reduceLeDiff,Nat.reduceSub,Nat.reduceAdd,Int.reduceToNat,Nat.reducePow,Int.reducePow,Int.reduceLE,Int.reduceLT,IntKind.bits,yC,yD,m0,aR,b0,aq,tm,qz,qA,kj,bY,C3,n8,n9,iH,n1,wo,YX]
   first|done|(simp only[aG];omega)
  ·have iH:(up !=x.neg)=true:=by simpa using hu
   rw[if_neg hu]at aq
   have wo:=wo (M+1) (.inr rfl)
   simp (maxSteps:=2000000) only[↓ak,aj,↓reduceIte,reduceCtorEq,Nat.reduceEqDiff,Nat.reduceLeDiff,Nat.reduceSub,Nat.reduceAdd,Int.reduceToNat,Nat.reducePow,Int.reducePow,Int.reduceLE,Int.reduceLT,IntKind.bits,yC,yD,m0,aR,b0,aq,tm,qz,qA,kj,bY,C3,n8,n9,iH,oZ,pb,pc,n1,wo,YX]
   first|done|(simp only[aG];omega)
def iw:bq where
 pre:=fun ds=>∃x:bD,ds=[aQ x]
 res:=fun ds=>match ds with
  |[p]=>aQ (cZ (fv p))
  |_=> .nilp
theorem ai1 (Γ:Env) (C4:Γ.has 48 h4) (ds:List D) (h:iw.pre ds):bH Γ Iz IA ds fun d=>d=iw.res ds:=by
 obtain⟨x,rfl⟩:=h
 simp (maxSteps:=2000000) only[↓ak,aj,↓reduceIte,reduceCtorEq,Nat.reduceEqDiff,Nat.reduceLeDiff,Nat.reduceSub,Nat.reduceAdd,Int.reduceToNat,Nat.reducePow,Int.reducePow,Int.reduceLE,Int.reduceLT,IntKind.bits,Iz,IA,iw,aQ,dw,cZ,C4,h4,b0,aR]
 exact⟨⟨x.hi,rfl⟩,⟨x.lo,rfl⟩⟩
def iP:bq where
 pre:=fun ds=>∃x y:bD,ds=[aQ x,aQ y]∧hk x∧hk y
 res:=fun ds=>match ds with
  |[p,q]=>aQ (dB (fv p) (fv q))
  |_=> .nilp
theorem ai2 (Γ:Env) (Kx:Γ.has 50 jT) (ds:List D) (h:iP.pre ds):bH Γ IH II ds fun d=>d=iP.res ds:=by
 obtain⟨x,y,rfl,⟨ez,e2⟩,⟨iu,mW⟩⟩:=h
 simp (maxSteps:=2000000) only[↓ak,aj,↓reduceIte,reduceCtorEq,Nat.reduceEqDiff,Nat.reduceLeDiff,Nat.reduceSub,Nat.reduceAdd,Int.reduceToNat,Nat.reducePow,Int.reducePow,Int.reduceLE,Int.reduceLT,IntKind.bits,IH,II,iP,aQ,dw,dB,Kx,jT,b0,aR]
 exact⟨⟨x.lo,y.lo,rfl,ez,iu⟩,⟨x.hi,y.hi,rfl,e2,mW⟩⟩
def r0:bq where
 pre:=fun ds=>∃(x:bD) (k:Int),ds=[aQ x,.int .i64 k]∧hk x∧-100000≤k∧k≤100000
 res:=fun ds=>match ds with
  |[p,.int _ k]=>aQ (fy (fv p) k)
  |_=> .nilp
theorem ai3 (Γ:Env) (ai4:Γ.has 69 vN) (ds:List D) (h:r0.pre ds):bH Γ ID IE ds fun d=>d=r0.res ds:=by
 obtain⟨x,k,rfl,⟨ez,e2⟩,h1,h2⟩:=h
 simp (maxSteps:=2000000) only[↓ak,aj,↓reduceIte,reduceCtorEq,Nat.reduceEqDiff,Nat.reduceLeDiff,Nat.reduceSub,Nat.reduceAdd,Int.reduceToNat,Nat.reducePow,Int.reducePow,Int.reduceLE,Int.reduceLT,IntKind.bits,ID,IE,r0,aQ,dw,fy,ai4,vN,b0,aR]
 exact⟨⟨x.lo,k,rfl,ez,h1,h2⟩,⟨x.hi,k,rfl,e2,h1,h2⟩⟩
def n2:bq where
 pre:=fun ds=>∃(x:bD) (k:Int),ds=[aQ x,.int .i64 k]∧hk x∧0≤k∧k≤100000
 res:=fun ds=>match ds with
  |[p,.int _ k]=>aQ (kh (fv p) k)
  |_=> .nilp
theorem ai5 (Γ:Env) (C5:Γ.has 75 m0) (ds:List D) (h:n2.pre ds):bH Γ IU IV ds fun d=>d=n2.res ds:=by
 obtain⟨x,k,rfl,⟨ez,e2⟩,h1,h2⟩:=h
 simp (maxSteps:=2000000) only[↓ak,aj,↓reduceIte,reduceCtorEq,Nat.reduceEqDiff,Nat.reduceLeDiff,Nat.reduceSub,Nat.reduceAdd,Int.reduceToNat,Nat.reducePow,Int.reducePow,Int.reduceLE,Int.reduceLT,IntKind.bits,IU,IV,n2,aQ,dw,kh,C5,m0,b0,aR]
 exact⟨⟨x.lo,k,false,rfl,ez,h1,h2⟩,⟨x.hi,k,true,rfl,e2,h1,h2⟩⟩
def kq (rows:List (List D)) (i:Nat) (m M:a3) (s:St):Prop:=s.af 5= .d (.recs 3 rows)∧s.af 4= .box 4 0∧(∃bs bf bd ev ec ed,s.aw 4=some ⟨false,false,.cells [bs,bf,bd,ev,ec,ed]⟩)∧s.af 6= .box 6 0∧s.aw 6=some ⟨false,false,.cells [.d (.bool m.neg),.d (.ints .i64 (ai m.m)),.d (.int .i64 m.e),.d (.bool M.neg),.d (.ints .i64 (ai M.m)),.d (.int .i64 M.e)]⟩∧s.af 7= .d (.int .i64 ((i+1:Nat):Int))
def qh:bq where
 pre:=fun ds=>∃x y:bD,ds=[aQ x,aQ y]∧wk x∧wk y
 res:=fun ds=>match ds with
  |[p,q]=>aQ (cO (fv p) (fv q))
  |_=> .nilp
theorem ai6 (Γ:Env) (ai7:Γ.has 51 rO) (C6:Γ.has 47 mV) (qi:Γ.has 19 gn) (ds:List D) (h:qh.pre ds):bH Γ IL IM ds fun d=>d=qh.res ds:=by
 obtain⟨x,y,rfl,⟨ez,e2⟩,⟨iu,mW⟩⟩:=h
 have cq:qh.res [aQ x,aQ y]=aQ (cO x y):=by simp only[qh,aQ,a7,dw]
 rw[cq]
 obtain⟨l,aB⟩:∃l,l=[cH x.lo y.hi,cH x.hi y.lo,cH x.hi y.hi]:=⟨_,rfl⟩
 obtain⟨a,a2⟩:∃a,a=cH x.lo y.lo:=⟨_,rfl⟩
 have fZ:cO x y=⟨dG fi a l,dG fj a l⟩:=by rw[aB,a2];rfl
 have hW:∀z∈a::l,cv z:=by
  intro z bg
  rw[a2,aB]at bg
  simp only[List.mem_cons,List.not_mem_nil,or_false]at bg
  rcases bg with rfl|rfl|rfl|rfl<;>exact xx ‹_› ‹_›
 have qB:∀u v:a3,uu u→uu v→rO.pre [.agg [.bool u.neg,.ints .i64 (ai u.m),.int .i64 u.e],.agg [.bool v.neg,.ints .i64 (ai v.m),.int .i64 v.e]]:=fun u v h1 h2=>⟨u,v,rfl,va h1,va h2⟩
 have wm:∀u v:a3,rO.res [.agg [.bool u.neg,.ints .i64 (ai u.m),.int .i64 u.e],.agg [.bool v.neg,.ints .i64 (ai v.m),.int .i64 v.e]]= .agg [.bool (cH u v).neg,.ints .i64 (ai (cH u v).m),.int .i64 (cH u v).e]:=fun u v=>by simp only[rO,b0,aR,a7]
 have kz:∀y m:a3,cv y→cv m→mV.pre [.agg [.bool y.neg,.ints .i64 (ai y.m),.int .i64 y.e],.agg [.bool m.neg,.ints .i64 (ai m.m),.int .i64 m.e]]:=fun y m h1 h2=>⟨y,m,rfl,h1,h2⟩
 have iZ:∀y m:a3,mV.res [.agg [.bool y.neg,.ints .i64 (ai y.m),.int .i64 y.e],.agg [.bool m.neg,.ints .i64 (ai m.m),.int .i64 m.e]]= .int .i64 (hp y m):=fun y m=>by simp only[mV,b0]
 have akT:gn.pre [.agg [.bool a.neg,.ints .i64 (ai a.m),.int .i64 a.e]]:=⟨a,rfl⟩
 have akU:gn.res [.agg [.bool a.neg,.ints .i64 (ai a.m),.int .i64 a.e]]= .agg [.bool a.neg,.ints .i64 (ai a.m),.int .i64 a.e,.bool a.neg,.ints .i64 (ai a.m),.int .i64 a.e]:=by simp only[gn,b0,aQ,pD,a7]
 obtain⟨rows,jf⟩:∃rows,rows=(a::l).map hY:=⟨_,rfl⟩
 have hlen:rows.length=l.length+1:=by rw[jf,List.length_map,List.length_cons]
 have UF:l.length=3:=by rw[aB];rfl
 have rY:∀(i:Nat) (hi:i<l.length+1),rows.getD i []=[.bool ((a::l)[i]'(by simpa using hi)).neg,.ints .i64 (ai ((a::l)[i]'(by simpa using hi)).m),.int .i64 ((a::l)[i]'(by simpa using hi)).e]:=fun i hi=>by
  rw[List.getD_eq_getElem?_getD,List.getElem?_eq_getElem (by omega),Option.getD_some]
  simp only[jf,List.getElem_map,hY]
 rw[fZ]
 rw[fP]
 unfold IL IM
 have vV:=hW a (by simp)
 have h0:=rY 0 (by omega)
 simp only[List.getElem_cons_zero]at h0
 refine cc (fun s=>s.af 4= .box 4 0∧(∃bs bf bd ev ec ed,s.aw 4=some ⟨false,false,.cells [bs,bf,bd,ev,ec,ed]⟩)∧s.af 2= .box 2 0∧s.aw 2=some ⟨false,false,.cells [.d (.bool x.lo.neg),.d (.ints .i64 (ai x.lo.m)),.d (.int .i64 x.lo.e),.d (.bool x.hi.neg),.d (.ints .i64 (ai x.hi.m)),.d (.int .i64 x.hi.e)]⟩∧s.af 3= .box 3 0∧s.aw 3=some ⟨false,false,.cells [.d (.bool y.lo.neg),.d (.ints .i64 (ai y.lo.m)),.d (.int .i64 y.lo.e),.d (.bool y.hi.neg),.d (.ints .i64 (ai y.hi.m)),.d (.int .i64 y.hi.e)]⟩) ?_ ?_
 ·simp (maxSteps:=2000000) only[↓ak,aj,↓reduceIte,reduceCtorEq,Nat.reduceEqDiff,Nat.reduceLeDiff,Nat.reduceSub,Nat.reduceAdd,Int.reduceToNat,Nat.reducePow,Int.reducePow,Int.reduceLE,Int.reduceLT,IntKind.bits,aQ]
  exact⟨_,_,_,_,_,_,rfl⟩
 rintro s ⟨aE,⟨bs,bf,bd,ev,ec,ed,aU⟩,h2,aY,al,aW⟩
 refine cc (fun s=>s.af 4= .box 4 0∧(∃bs bf bd ev ec ed,s.aw 4=some ⟨false,false,.cells [bs,bf,bd,ev,ec,ed]⟩)∧s.af 5= .d (.recs 3 rows)) ?_ ?_
 ·have p1:=qB _ _ ez iu
  have cS:=qB _ _ ez mW
  have g2:=qB _ _ e2 iu
  have si:=qB _ _ e2 mW
  simp (maxSteps:=2000000) only[↓ak,aj,↓reduceIte,reduceCtorEq,Nat.reduceEqDiff,Nat.reduceLeDiff,Nat.reduceSub,Nat.reduceAdd,Int.reduceToNat,Nat.reducePow,Int.reducePow,Int.reduceLE,Int.reduceLT,IntKind.bits,aE,aU,h2,aY,al,aW,ai7,p1,cS,g2,si,wm]
  refine⟨⟨_,_,_,_,_,_,rfl⟩,?_⟩
  rw[jf,a2,aB]
  rfl
 clear aE aU h2 aY al aW
 rintro s ⟨aE,⟨bs,bf,bd,ev,ec,ed,aU⟩,aI⟩
 have uv:(0:Int)<rows.length:=by omega
 have ai8:0<rows.length:=by omega
 have we:∀{m M:a3} {i:Nat} {s:St},kq rows i m M s↔kq rows i m M s:=Iff.rfl
 have bB:((1:Int)<rows.length)=True:=by simp only[eq_iff_iff,iff_true];omega
 refine cc (fun s=>s.af 5= .d (.recs 3 rows)∧s.af 4= .box 4 0∧(∃bs bf bd ev ec ed,s.aw 4=some ⟨false,false,.cells [bs,bf,bd,ev,ec,ed]⟩)∧s.af 6= .box 6 0∧s.aw 6=some ⟨false,false,.cells [.d (.bool a.neg),.d (.ints .i64 (ai a.m)),.d (.int .i64 a.e),.d (.bool a.neg),.d (.ints .i64 (ai a.m)),.d (.int .i64 a.e)]⟩) ?_ ?_
 ·simp (maxSteps:=2000000) only[↓ak,aj,↓reduceIte,reduceCtorEq,Nat.reduceEqDiff,Nat.reduceLeDiff,Nat.reduceSub,Nat.reduceAdd,Int.reduceToNat,Nat.reducePow,Int.reducePow,Int.reduceLE,Int.reduceLT,IntKind.bits,aE,aU,aI,h0,uv,ai8,qi,akT,akU]
  exact⟨_,_,_,_,_,_,rfl⟩
 clear aE aU aI
 rintro s ⟨aI,aE,⟨bs,bf,bd,ev,ec,ed,aU⟩,aM,a0⟩
 refine cc (fun s=>s.af 4= .box 4 0∧(∃bs bf bd ev ec ed,s.aw 4=some ⟨false,false,.cells [bs,bf,bd,ev,ec,ed]⟩)∧s.af 6= .box 6 0∧s.aw 6=some ⟨false,false,.cells [.d (.bool (dG fi a l).neg),.d (.ints .i64 (ai (dG fi a l).m)),.d (.int .i64 (dG fi a l).e),.d (.bool (dG fj a l).neg),.d (.ints .i64 (ai (dG fj a l).m)),.d (.int .i64 (dG fj a l).e)]⟩) ?_ ?_
 ·simp (maxSteps:=2000000) only[↓ak,aj,↓reduceIte,reduceCtorEq,Nat.reduceEqDiff,Nat.reduceLeDiff,Nat.reduceSub,Nat.reduceAdd,Int.reduceToNat,Nat.reducePow,Int.reducePow,Int.reduceLE,Int.reduceLT,IntKind.bits,aE,aU,aI,aM,a0]
  refine eC (fun s=>∃(i:Nat) (m M:a3),kq rows i m M s∧i≤l.length∧cv m∧cv M∧dG fi m (l.drop i)=dG fi a l∧dG fj M (l.drop i)=dG fj a l)
   (fun s=>match s.af 7 with| .d (.int _ n)=>rows.length - n.toNat|_=>0) ?_ ?_
  ·refine⟨0,a,a,?_,Nat.zero_le _,vV,vV,rfl,rfl⟩
   unfold kq
   simp (maxSteps:=2000000) only[↓ak,aj,↓reduceIte,reduceCtorEq,Nat.reduceEqDiff,Nat.reduceLeDiff,Nat.reduceSub,Nat.reduceAdd,Int.reduceToNat,Nat.reducePow,Int.reducePow,Int.reduceLE,Int.reduceLT,IntKind.bits,aE,aU,aI,aM,a0,Nat.zero_add]
   ((repeat' apply And.intro)<;>first|assumption|with_reducible rfl|omega|(simp only[aG];omega)|exact⟨_,rfl⟩|exact⟨_,_,_,rfl⟩|exact⟨_,_,_,_,_,_,rfl⟩)
  ·clear aE aU aI aM a0
   rintro s ⟨i,m,M,⟨aI,aE,⟨bs,bf,bd,ev,ec,ed,aU⟩,aM,a0,a4⟩,hi,hm,cj,hf,bb⟩
   have DB:=a4
   by_cases ci:((i+1:Nat):Int)<rows.length
   ·have mY:i<l.length:=by omega
    have fF:i+1<rows.length:=by omega
    have lZ:=rY (i+1) (by omega)
    obtain⟨z,bg⟩:∃z,z=l[i]:=⟨_,rfl⟩
    have ai9:(a::l)[i+1]'(by simpa using mY)=z:=by rw[bg];rfl
    rw[ai9]at lZ
    have Vf:cv z:=hW z (by rw[bg];exact List.mem_cons_of_mem _ (List.getElem_mem mY))
    rw[EB mY,←bg]at hf bb
    have p1:=kz z m Vf hm
    have cS:=kz z M Vf cj
    have a1:((i+1:Nat):Int).toNat=i+1:=Int.toNat_natCast _
    obtain⟨eB,nR⟩:∃eB,eB=(if fi z m=true then z else m):=⟨_,rfl⟩
    obtain⟨iY,lY⟩:∃iY,iY=(if fj z M=true then z else M):=⟨_,rfl⟩
    have bW:cv eB:=by rw[nR];split<;>assumption
    have cy:cv iY:=by rw[lY];split<;>assumption
    rw[←nR]at hf
    rw[←lY]at bb
    refine cc (kq rows i m M) ?_ ?_
    ·unfold kq
     simp (maxSteps:=60000) only[↓ak,aj,↓reduceIte,reduceCtorEq,Nat.reduceEqDiff,Nat.reduceLeDiff,Nat.reduceSub,Nat.reduceAdd,Int.reduceToNat,Nat.reducePow,Int.reducePow,Int.reduceLE,Int.reduceLT,IntKind.bits,aE,aU,aI,aM,a0,a4,ci,fF]
     ((repeat' apply And.intro)<;>first|assumption|with_reducible rfl|omega|(simp only[aG];omega)|exact⟨_,rfl⟩|exact⟨_,_,_,rfl⟩|exact⟨_,_,_,_,_,_,rfl⟩)
    clear aE aU aI aM a0 a4
    rintro s ⟨aI,aE,⟨bs,bf,bd,ev,ec,ed,aU⟩,aM,a0,a4⟩
    refine cc (kq rows i eB iY) ?_ ?_
    ·rw[jF]
     refine cc (kq rows i eB M) ?_ ?_
     ·refine cc (fun s=>s.af 46= .d (.bool (fi z m))∧kq rows i m M s) ?_ ?_
      ·unfold kq
       simp (maxSteps:=60000) only[↓ak,aj,↓reduceIte,reduceCtorEq,Nat.reduceEqDiff,Nat.reduceLeDiff,Nat.reduceSub,Nat.reduceAdd,Int.reduceToNat,Nat.reducePow,Int.reducePow,Int.reduceLE,Int.reduceLT,IntKind.bits,aE,aU,aI,aM,a0,a4,fF,lZ,Int.toNat_natCast,C6,p1,iZ,fi]
       ((repeat' apply And.intro)<;>first|assumption|with_reducible rfl|omega|(simp only[aG];omega)|exact⟨_,rfl⟩|exact⟨_,_,_,rfl⟩|exact⟨_,_,_,_,_,_,rfl⟩)
      clear aE aU aI aM a0 a4
      rintro s ⟨C7,aI,aE,⟨bs,bf,bd,ev,ec,ed,aU⟩,aM,a0,a4⟩
      unfold kq
      cases ar:fi z m with
      |true=>
       rw[ar,if_pos rfl]at nR
       rw[ar]at C7
       subst nR
       simp (maxSteps:=60000) only[↓ak,aj,↓reduceIte,reduceCtorEq,Nat.reduceEqDiff,Nat.reduceLeDiff,Nat.reduceSub,Nat.reduceAdd,Int.reduceToNat,Nat.reducePow,Int.reducePow,Int.reduceLE,Int.reduceLT,IntKind.bits,C7,aE,aU,aI,aM,a0,a4,fF,lZ,Int.toNat_natCast]
       ((repeat' apply And.intro)<;>first|assumption|with_reducible rfl|omega|(simp only[aG];omega)|exact⟨_,rfl⟩|exact⟨_,_,_,rfl⟩|exact⟨_,_,_,_,_,_,rfl⟩)
      |false=>
       rw[ar,if_neg (by decide)]at nR
       rw[ar]at C7
       subst nR
       simp (maxSteps:=60000) only[↓ak,aj,↓reduceIte,reduceCtorEq,Nat.reduceEqDiff,Nat.reduceLeDiff,Nat.reduceSub,Nat.reduceAdd,Int.reduceToNat,Nat.reducePow,Int.reducePow,Int.reduceLE,Int.reduceLT,IntKind.bits,C7,aE,aU,aI,aM,a0,a4]
       ((repeat' apply And.intro)<;>first|assumption|with_reducible rfl|omega|(simp only[aG];omega)|exact⟨_,rfl⟩|exact⟨_,_,_,rfl⟩|exact⟨_,_,_,_,_,_,rfl⟩)
     clear aE aU aI aM a0 a4
     rintro s ⟨aI,aE,⟨bs,bf,bd,ev,ec,ed,aU⟩,aM,a0,a4⟩
     refine cc (fun s=>s.af 59= .d (.bool (fj z M))∧kq rows i eB M s) ?_ ?_
     ·unfold kq
      simp (maxSteps:=60000) only[↓ak,aj,↓reduceIte,reduceCtorEq,Nat.reduceEqDiff,Nat.reduceLeDiff,Nat.reduceSub,Nat.reduceAdd,Int.reduceToNat,Nat.reducePow,Int.reducePow,Int.reduceLE,Int.reduceLT,IntKind.bits,aE,aU,aI,aM,a0,a4,fF,lZ,Int.toNat_natCast,C6,cS,iZ,fj]
      ((repeat' apply And.intro)<;>first|assumption|with_reducible rfl|omega|(simp only[aG];omega)|exact⟨_,rfl⟩|exact⟨_,_,_,rfl⟩|exact⟨_,_,_,_,_,_,rfl⟩)
     clear aE aU aI aM a0 a4
     rintro s ⟨C8,aI,aE,⟨bs,bf,bd,ev,ec,ed,aU⟩,aM,a0,a4⟩
     unfold kq
     cases ar:fj z M with
     |true=>
      rw[ar,if_pos rfl]at lY
      rw[ar]at C8
      subst lY
      simp (maxSteps:=60000) only[↓ak,aj,↓reduceIte,reduceCtorEq,Nat.reduceEqDiff,Nat.reduceLeDiff,Nat.reduceSub,Nat.reduceAdd,Int.reduceToNat,Nat.reducePow,Int.reducePow,Int.reduceLE,Int.reduceLT,IntKind.bits,C8,aE,aU,aI,aM,a0,a4,fF,lZ,Int.toNat_natCast]
      ((repeat' apply And.intro)<;>first|assumption|with_reducible rfl|omega|(simp only[aG];omega)|exact⟨_,rfl⟩|exact⟨_,_,_,rfl⟩|exact⟨_,_,_,_,_,_,rfl⟩)
     |false=>
      rw[ar,if_neg (by decide)]at lY
      rw[ar]at C8
      subst lY
      simp (maxSteps:=60000) only[↓ak,aj,↓reduceIte,reduceCtorEq,Nat.reduceEqDiff,Nat.reduceLeDiff,Nat.reduceSub,Nat.reduceAdd,Int.reduceToNat,Nat.reducePow,Int.reducePow,Int.reduceLE,Int.reduceLT,IntKind.bits,C8,aE,aU,aI,aM,a0,a4]
      ((repeat' apply And.intro)<;>first|assumption|with_reducible rfl|omega|(simp only[aG];omega)|exact⟨_,rfl⟩|exact⟨_,_,_,rfl⟩|exact⟨_,_,_,_,_,_,rfl⟩)
    clear aE aU aI aM a0 a4
    rintro s ⟨aI,aE,⟨bs,bf,bd,ev,ec,ed,aU⟩,aM,a0,a4⟩
    unfold kq
    simp (maxSteps:=60000) only[↓ak,aj,↓reduceIte,reduceCtorEq,Nat.reduceEqDiff,Nat.reduceLeDiff,Nat.reduceSub,Nat.reduceAdd,Int.reduceToNat,Nat.reducePow,Int.reducePow,Int.reduceLE,Int.reduceLT,IntKind.bits,aE,aU,aI,aM,a0,a4]
    refine⟨by simp only[aG];omega,⟨i+1,eB,iY,⟨⟨_,_,_,_,_,_,rfl⟩,rfl,by omega⟩,by omega,bW,cy,hf,bb⟩,?_⟩
    rw[DB]
    show rows.length - _<rows.length - _
    omega
   ·simp (maxSteps:=2000000) only[↓ak,aj,↓reduceIte,reduceCtorEq,Nat.reduceEqDiff,Nat.reduceLeDiff,Nat.reduceSub,Nat.reduceAdd,Int.reduceToNat,Nat.reducePow,Int.reducePow,Int.reduceLE,Int.reduceLT,IntKind.bits,aE,aU,aI,aM,a0,a4,ci]
    have hi':l.drop i=[]:=List.drop_of_length_le (by omega)
    rw[hi']at hf bb
    rw[←hf,←bb]
    exact⟨⟨_,_,_,_,_,_,rfl⟩,rfl⟩
 clear aE aU aI aM a0
 rintro s ⟨aE,⟨bs,bf,bd,ev,ec,ed,aU⟩,aM,a0⟩
 simp (maxSteps:=2000000) only[↓ak,aj,↓reduceIte,reduceCtorEq,Nat.reduceEqDiff,Nat.reduceLeDiff,Nat.reduceSub,Nat.reduceAdd,Int.reduceToNat,Nat.reducePow,Int.reducePow,Int.reduceLE,Int.reduceLT,IntKind.bits,aE,aU,aM,a0,aQ,a7]
theorem adI (neg:Bool) (m:Nat) (e:Int):mk neg (2*m) (e - 1)=mk neg m e:=by
 unfold mk
 by_cases h:m=0
 ·rw[if_pos h,if_pos (by omega)]
 ·have:=Ej h 1
  rw[if_neg h,if_neg (by omega),show (2:Nat)*m=2^1*m by omega,this,Nat.pow_add,Nat.mul_div_mul_left _ _ (by decide:0<2^1)]
  congr 1
  omega
def r1:bq where
 pre:=fun ds=>∃(x:a3) (n:Int) (up:Bool),ds=[aR x,.int .i64 n,.bool up]∧cv x∧0≤n∧n≤1000
 res:=fun ds=>match ds with
  |[p,.int _ n,.bool up]=>aR (dD (dO p) n up)
  |_=> .nilp
theorem aja (Γ:Env) (tm:Γ.has 104 jk) (tT:Γ.has 91 h3) (S7:Γ.has 105 pU) (tU:Γ.has 94 kZ) (Vg:Γ.has 65 km) (oZ:Γ.has 89 hx) (n1:Γ.has 76 dE) (C5:Γ.has 75 m0) (ds:List D) (h:r1.pre ds):bH Γ CF CG ds fun d=>d=r1.res ds:=by
 obtain⟨x,n,up,rfl,ah,dj,hz⟩:=h
 have ex:=iM ah
 have cP:=ie ah
 have aw:=kI ah
 have l8:ai 0=[]:=gf
 by_cases h0:x.m=0
 ·have aq:dD x n up=x:=by
   unfold dD
   rw[h0,Nat.zero_mul,sy]
   obtain⟨a1,a6⟩:=ah.1.1 h0
   have:mk false 0 ((x.e - fe x n) / 2 - 1)=x:=by
    unfold mk
    rw[if_pos rfl]
    cases x;simp_all
   rw[this]
   unfold fg
   rw[if_pos (by rw[h0,j2];omega)]
  simp (maxSteps:=2000000) only[↓ak,aj,↓reduceIte,reduceCtorEq,Nat.reduceEqDiff,Nat.reduceLeDiff,Nat.reduceSub,Nat.reduceAdd,Int.reduceToNat,Nat.reducePow,Int.reducePow,Int.reduceLE,Int.reduceLT,IntKind.bits,CF,CG,r1,aR,b0,aq,yM h0]
 ·have hW:=OH ah dj hz
  have mM:=wK (x:=x) dj
  have tQ:=wP x n
  obtain⟨hH,Ko⟩:∃hH,hH=max (2*n+4 - (bc x.m:Int)) 0:=⟨_,rfl⟩
  have rR:(if (0:Int)>2*n+4 - bc x.m then 0 else 2*n+4 - (bc x.m:Int))=hH:=by split<;>omega
  have bV:fe x n=hH+(x.e - hH) % 2:=by unfold fe;rw[←Ko]
  obtain⟨k,ad⟩:∃k:Nat,fe x n=k:=⟨(fe x n).toNat,by omega⟩
  obtain⟨M,cj⟩:∃M,M=x.m*2^k:=⟨_,rfl⟩
  obtain⟨q,aZ⟩:∃q,q=(x.e - k) / 2:=⟨_,rfl⟩
  rw[ad]at tQ mM hW
  rw[Int.toNat_natCast,←cj]at hW
  rw[←aZ]at tQ hW
  have yV:(x.e - (k:Int)).tdiv 2=q:=by rw[tQ];exact Int.mul_tdiv_cancel_left _ (by decide)
  have aq:dD x n up=fg (mk false (cp M) (q - 1)) n up:=by unfold dD;rw[ad,Int.toNat_natCast,←cj,←aZ]
  have akO:bc M≤bc x.m+k:=by rw[cj,j3 h0];omega
  have zk:=gy M
  have YV:=EW M
  have YW:=gy (aX M)
  have zl:=zY M
  have Li:=gy (cp M)
  have aiw:=uB (aX M) (aX M)
  have aix:=gy (aX M*aX M)
  have c8:ai 1=[1]:=by decide+kernel
  have qz:jk.pre [.ints .i64 (ai x.m)]:=⟨x.m,rfl,by omega⟩
  have qA:jk.res [.ints .i64 (ai x.m)]= .int .i64 (bc x.m):=by simp only[jk,bO]
  have yW:h3.pre [.ints .i64 (ai x.m),.int .i64 k]:=⟨_,_,rfl,cN _,by omega,by omega⟩
  have yX:h3.res [.ints .i64 (ai x.m),.int .i64 k]= .ints .i64 (ai M):=by simp only[h3,bO,Int.toNat_natCast,←cj,a7]
  have B1:h3.pre [.ints .i64 (ai (aX M)),.int .i64 1]:=⟨_,_,rfl,cN _,by omega,by omega⟩
  have B2:h3.res [.ints .i64 (ai (aX M)),.int .i64 1]= .ints .i64 (ai (2*aX M)):=by
   simp only[h3,bO,a7]
   rw[show aX M*2^(1:Int).toNat=2*aX M by rw[show (1:Int).toNat=1 from rfl];omega]
  have yY:pU.pre [.ints .i64 (ai M)]:=⟨M,rfl,by omega⟩
  have yZ:pU.res [.ints .i64 (ai M)]= .ints .i64 (ai (aX M)):=by simp only[pU,bO,a7]
  have y0:kZ.pre [.ints .i64 (ai (aX M)),.ints .i64 (ai (aX M))]:=⟨_,_,rfl,cN _,cN _,by omega,by omega⟩
  have y1:kZ.res [.ints .i64 (ai (aX M)),.ints .i64 (ai (aX M))]= .ints .i64 (ai (aX M*aX M)):=by simp only[kZ,bO,a7]
  have Vh:km.pre [.ints .i64 (ai (aX M*aX M)),.ints .i64 (ai M)]:=⟨_,_,rfl,by omega⟩
  have C1:m0.pre [.agg [.bool (mk false (cp M) (q - 1)).neg,.ints .i64 (ai (mk false (cp M) (q - 1)).m),.int .i64 (mk false (cp M) (q - 1)).e],.int .i64 n,.bool up]:=⟨_,_,_,rfl,hW,dj,by omega⟩
  have C9:m0.res [.agg [.bool (mk false (cp M) (q - 1)).neg,.ints .i64 (ai (mk false (cp M) (q - 1)).m),.int .i64 (mk false (cp M) (q - 1)).e],.int .i64 n,.bool up]=aR (dD x n up):=by rw[aq];simp only[m0,b0]
  rw[fP]
  unfold CF CG
  refine cc (fun s=>s.af 1= .d (.int .i64 n)∧s.af 2= .d (.bool up)∧s.af 3= .box 3 0∧s.aw 3=some ⟨false,false,.cells [.d (.bool x.neg),.d (.ints .i64 (ai x.m)),.d (.int .i64 x.e)]⟩∧s.af 6= .box 6 0∧(∃bs bf bd,s.aw 6=some ⟨false,false,.cells [bs,bf,bd]⟩)) ?_ ?_
  ·simp (maxSteps:=2000000) only[↓ak,aj,↓reduceIte,reduceCtorEq,Nat.reduceEqDiff,Nat.reduceLeDiff,Nat.reduceSub,Nat.reduceAdd,Int.reduceToNat,Nat.reducePow,Int.reducePow,Int.reduceLE,Int.reduceLT,IntKind.bits,aR]
   exact⟨_,_,_,rfl⟩
  rintro s ⟨h1,h2,al,aW,aM,bs,bf,bd,a0⟩
  refine cc (fun s=>s.af 1= .d (.int .i64 n)∧s.af 2= .d (.bool up)∧s.af 3= .box 3 0∧s.aw 3=some ⟨false,false,.cells [.d (.bool x.neg),.d (.ints .i64 (ai x.m)),.d (.int .i64 x.e)]⟩∧s.af 6= .box 6 0∧(∃bs bf bd,s.aw 6=some ⟨false,false,.cells [bs,bf,bd]⟩)) ?_ ?_
  ·simp (maxSteps:=2000000) only[↓ak,aj,↓reduceIte,reduceCtorEq,Nat.reduceEqDiff,Nat.reduceLeDiff,Nat.reduceSub,Nat.reduceAdd,Int.reduceToNat,Nat.reducePow,Int.reducePow,Int.reduceLE,Int.reduceLT,IntKind.bits,h1,h2,al,aW,aM,a0,rN h0]
   exact⟨_,_,_,rfl⟩
  clear h1 h2 al aW aM a0
  rintro s ⟨h1,h2,al,aW,aM,bs,bf,bd,a0⟩
  refine cc (fun s=>s.af 7= .d (.int .i64 hH)∧s.af 1= .d (.int .i64 n)∧s.af 2= .d (.bool up)∧s.af 3= .box 3 0∧s.aw 3=some ⟨false,false,.cells [.d (.bool x.neg),.d (.ints .i64 (ai x.m)),.d (.int .i64 x.e)]⟩∧s.af 6= .box 6 0∧(∃bs bf bd,s.aw 6=some ⟨false,false,.cells [bs,bf,bd]⟩)) ?_ ?_
  ·simp (maxSteps:=2000000) only[↓ak,aj,↓reduceIte,reduceCtorEq,Nat.reduceEqDiff,Nat.reduceLeDiff,Nat.reduceSub,Nat.reduceAdd,Int.reduceToNat,Nat.reducePow,Int.reducePow,Int.reduceLE,Int.reduceLT,IntKind.bits,h1,h2,al,aW,aM,a0,tm,qz,qA,rR]
   ((repeat' apply And.intro)<;>first|assumption|with_reducible rfl|omega|(simp only[aG];omega)|exact⟨_,rfl⟩|exact⟨_,_,_,rfl⟩|exact⟨_,_,_,_,_,_,rfl⟩)
  clear h1 h2 al aW aM a0
  rintro s ⟨a4,h1,h2,al,aW,aM,bs,bf,bd,a0⟩
  refine cc (fun s=>s.af 7= .d (.int .i64 k)∧s.af 1= .d (.int .i64 n)∧s.af 2= .d (.bool up)∧s.af 3= .box 3 0∧s.aw 3=some ⟨false,false,.cells [.d (.bool x.neg),.d (.ints .i64 (ai x.m)),.d (.int .i64 x.e)]⟩∧s.af 6= .box 6 0∧(∃bs bf bd,s.aw 6=some ⟨false,false,.cells [bs,bf,bd]⟩)) ?_ ?_
  ·by_cases ao:(x.e - hH).tmod 2=0
   ·have ct:((x.e - hH).tmod 2==0)=true:=by rw[ao];rfl
    have kj:hH=(k:Int):=by have:=Int.emod_emod_of_dvd (x.e - hH) (Int.dvd_refl 2);have h2:=Int.dvd_of_tmod_eq_zero ao;omega
    subst kj
    simp (maxSteps:=2000000) only[↓ak,aj,↓reduceIte,reduceCtorEq,Nat.reduceEqDiff,Nat.reduceLeDiff,Nat.reduceSub,Nat.reduceAdd,Int.reduceToNat,Nat.reducePow,Int.reducePow,Int.reduceLE,Int.reduceLT,IntKind.bits,a4,h1,h2,al,aW,aM,a0,ct,bne,Bool.not_true]
    ((repeat' apply And.intro)<;>first|assumption|with_reducible rfl|omega|(simp only[aG];omega)|exact⟨_,rfl⟩|exact⟨_,_,_,rfl⟩|exact⟨_,_,_,_,_,_,rfl⟩)
   ·have ct:((x.e - hH).tmod 2==0)=false:=beq_false_of_ne ao
    have kj:hH+1=(k:Int):=by have h2:¬(2:Int)∣x.e - hH:=fun h=>ao (Int.tmod_eq_zero_of_dvd h);omega
    simp (maxSteps:=2000000) only[↓ak,aj,↓reduceIte,reduceCtorEq,Nat.reduceEqDiff,Nat.reduceLeDiff,Nat.reduceSub,Nat.reduceAdd,Int.reduceToNat,Nat.reducePow,Int.reducePow,Int.reduceLE,Int.reduceLT,IntKind.bits,a4,h1,h2,al,aW,aM,a0,ct,bne,Bool.not_false,kj]
    ((repeat' apply And.intro)<;>first|assumption|with_reducible rfl|omega|(simp only[aG];omega)|exact⟨_,rfl⟩|exact⟨_,_,_,rfl⟩|exact⟨_,_,_,_,_,_,rfl⟩)
  clear a4 h1 h2 al aW aM a0
  rintro s ⟨a4,h1,h2,al,aW,aM,bs,bf,bd,a0⟩
  by_cases ao:aX M*aX M=M
  ·have b5:cp M=2*aX M:=by unfold cp;rw[if_neg (by omega)]
   have Ky:km.res [.ints .i64 (ai (aX M*aX M)),.ints .i64 (ai M)]= .bool true:=by simp only[km,ao,decide_true]
   have tR:dE.pre [.bool false,.ints .i64 (ai (aX M)),.int .i64 q]:=⟨_,_,_,rfl,by omega,by omega,by omega⟩
   have qe:dE.res [.bool false,.ints .i64 (ai (aX M)),.int .i64 q]=aR (mk false (cp M) (q - 1)):=by simp only[dE,bO];rw[b5,adI]
   simp only[aR,a7]at qe C9
   simp (maxSteps:=2000000) only[↓ak,aj,↓reduceIte,reduceCtorEq,Nat.reduceEqDiff,Nat.reduceLeDiff,Nat.reduceSub,Nat.reduceAdd,Int.reduceToNat,Nat.reducePow,Int.reducePow,Int.reduceLE,Int.reduceLT,IntKind.bits,r1,aR,b0,a4,h1,h2,al,aW,aM,a0,tT,yW,yX,S7,yY,yZ,tU,y0,y1,Vg,Vh,Ky,yV,n1,tR,qe,C5,C1,C9]
   ((repeat' apply And.intro)<;>first|assumption|with_reducible rfl|omega|(simp only[aG];omega)|exact⟨_,rfl⟩|exact⟨_,_,_,rfl⟩|exact⟨_,_,_,_,_,_,rfl⟩)
  ·have b5:cp M=2*aX M+1:=by have:=(jG M).1;unfold cp;rw[if_pos (by omega)]
   have Ky:km.res [.ints .i64 (ai (aX M*aX M)),.ints .i64 (ai M)]= .bool false:=by
    simp only[km]
    rw[decide_eq_false (fun h=>ao (Ey h))]
   have aY:bc (2*aX M)≤bc (cp M):=qO (by omega)
   have hP:=gy (2*aX M)
   have pad:hx.pre [.ints .i64 (ai (2*aX M)),.ints .i64 [1]]:=⟨_,_,rfl,cN _,by rw[←c8];exact cN 1,by omega,by decide⟩
   have Kq:hx.res [.ints .i64 (ai (2*aX M)),.ints .i64 [1]]= .ints .i64 (ai (cp M)):=by simp only[hx,←c8,bO,a7,b5]
   have tR:dE.pre [.bool false,.ints .i64 (ai (cp M)),.int .i64 (q - 1)]:=⟨_,_,_,rfl,by omega,by omega,by omega⟩
   have qe:dE.res [.bool false,.ints .i64 (ai (cp M)),.int .i64 (q - 1)]=aR (mk false (cp M) (q - 1)):=by simp only[dE,bO]
   simp only[aR,a7]at qe C9
   simp (maxSteps:=2000000) only[↓ak,aj,↓reduceIte,reduceCtorEq,Nat.reduceEqDiff,Nat.reduceLeDiff,Nat.reduceSub,Nat.reduceAdd,Int.reduceToNat,Nat.reducePow,Int.reducePow,Int.reduceLE,Int.reduceLT,IntKind.bits,r1,aR,b0,a4,h1,h2,al,aW,aM,a0,tT,yW,yX,B1,B2,S7,yY,yZ,tU,y0,y1,Vg,Vh,Ky,oZ,pad,Kq,yV,n1,tR,qe,C5,C1,C9]
   ((repeat' apply And.intro)<;>first|assumption|with_reducible rfl|omega|(simp only[aG];omega)|exact⟨_,rfl⟩|exact⟨_,_,_,rfl⟩|exact⟨_,_,_,_,_,_,rfl⟩)
def qj:bq where
 pre:=fun ds=>∃(x:bD) (k:Int),ds=[aQ x,.int .i64 k]∧hk x∧0≤k∧k≤1000
 res:=fun ds=>match ds with
  |[p,.int _ k]=>lB (fv p) k
  |_=> .nilp
theorem ajb (Γ:Env) (ajc:Γ.has 63 r1) (Vi:Γ.has 62 nX) (ds:List D) (h:qj.pre ds):bH Γ Cy Cz ds fun d=>d=qj.res ds:=by
 obtain⟨x,k,rfl,⟨ez,e2⟩,h1,h2⟩:=h
 have l8:ai 0=[]:=by decide+kernel
 by_cases ay:gD x.lo<0
 ·have aq:lB x k= .ep [aQ ⟨⟨false,0,0⟩,⟨false,0,0⟩⟩,.bool false]:=by unfold lB;rw[if_pos ay]
  simp (maxSteps:=2000000) only[↓ak,aj,↓reduceIte,reduceCtorEq,Nat.reduceEqDiff,Nat.reduceLeDiff,Nat.reduceSub,Nat.reduceAdd,Int.reduceToNat,Nat.reducePow,Int.reducePow,Int.reduceLE,Int.reduceLT,IntKind.bits,Cy,Cz,qj,aQ,dw,aq,ay,l8,Vi,nX,aR,b0]
  first|done|exact⟨x.lo,rfl⟩
 ·have aq:lB x k= .ep [aQ (mv x k),.bool true]:=by unfold lB;rw[if_neg ay]
  simp (maxSteps:=2000000) only[↓ak,aj,↓reduceIte,reduceCtorEq,Nat.reduceEqDiff,Nat.reduceLeDiff,Nat.reduceSub,Nat.reduceAdd,Int.reduceToNat,Nat.reducePow,Int.reducePow,Int.reduceLE,Int.reduceLT,IntKind.bits,Cy,Cz,qj,aQ,dw,aq,ay,l8,mv,Vi,nX,aR,b0,ajc,r1]
  exact⟨⟨x.lo,rfl⟩,⟨x.lo,k,false,rfl,ez,h1,h2⟩,⟨x.hi,k,true,rfl,e2,h1,h2⟩⟩
end RV.Dr
