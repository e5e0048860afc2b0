/- Lemmas for a claim: an abstract machine for the translated code, proved sound, and contracts of functions. By an AI agent. -/
import Derived.Test.YtfnabehbkmlofaaGreatDoorRi
import Derived.Test.YtfnabehbkmlofaaGreatDoorRd
import Derived.Test.YtfnabehbkmlofaaGreatDoorRe
import Derived.Test.YtfnabehbkmlofaaGreatDoorRf
import Derived.Test.YtfnabehbkmlofaaGreatDoorRh
set_option linter.all false
namespace RV.Dr
open Go RV RR
set_option linter.unusedSimpArgs false
set_option linter.unusedVariables false
set_option maxRecDepth 100000
set_option maxHeartbeats 4000000
theorem at0 {a q:Nat} (h:a<1152921504606846976) (aq:3≤q) (aO:a0 a≤q):a0 (bV a)≤q:=by
 by_cases axD:60≤q
 ·exact Nat.le_trans (Bh _) axD
 have d57:2^(60 - q)∣144115188075855872:=by
  rw[show 144115188075855872=2^57 by decide];exact Nat.pow_dvd_pow 2 (by omega)
 have ajA:2^(60 - q)∣a:=by
  rw[←Bi h]
  exact Nat.dvd_trans (Nat.pow_dvd_pow 2 (by omega)) (Nat.dvd_mul_left _ _)
 have ay3:2^(60 - q)∣bV a:=by
  unfold bV
  split
  ·exact Nat.dvd_sub ajA (Nat.dvd_trans d57 (Nat.dvd_mul_left _ _))
  ·exact Nat.dvd_sub (Nat.dvd_trans d57 (Nat.dvd_mul_left _ _)) ajA
 by_cases h0:bV a=0
 ·rw[h0,yq.2];omega
 ·have:=Rw (k:=60 - q) h0 (Nat.mod_eq_zero_of_dvd ay3)
  unfold a0;rw[if_neg h0];omega
def hU (L:List (Int×Nat)):List (List D):=L.map fun p=>[.int .i64 p.1,.int .i64 p.2]
def LU (b:Bool) (r:List D):Nat:=match r with
 |[.int _ K,.int _ Q]=>bG b (an K Q.toNat)
 |_=>0
def fF (b:Bool) (L:List (Int×Nat)):List Nat:=L.map fun p=>bG b (an p.1 p.2)
theorem abC (b:Bool) (L:List (Int×Nat)):(hU L).map (LU b)=fF b L:=by
 unfold hU fF;rw[List.map_map];rfl
theorem yh (b:Bool) (L:List (Int×Nat)):(fF b L).length=L.length:=List.length_map ..
theorem ZN (b:Bool) {L:List (Int×Nat)} {i:Nat} (h:i<L.length):fF b (L.take i)++[bG b (an L[i].1 L[i].2)]=fF b (L.take (i+1)):=by
 unfold fF;rw[List.take_succ_eq_append_getElem h,List.map_append];rfl
theorem asB {L:List (Int×Nat)} {i:Nat} (h:i<L.length):(hU L).getD i []=[.int .i64 L[i].1,.int .i64 L[i].2]:=by
 unfold hU;rw[List.getD_eq_getElem?_getD,List.getElem?_map,List.getElem?_eq_getElem h];rfl
def zS:br where
 pre:=fun ds=>∃L:List (Int×Nat),ds=[.recs 2 (hU L)]∧(∀p∈L,p.2≤14∧aI p.1)∧L.length≤1000
 res:=fun ds=>match ds with
  |[.recs _ R]=> .agg [.flts (R.map (LU false)),.flts (R.map (LU true))]
  |_=> .nilp
def dD (k i:Nat) (A B:List Nat) (s:St):Prop:=s.af k= .box k 0∧s.aA k=some ⟨false,false,.cells [.own (500000+k) 0 i,.own (600000+k) 0 i]⟩∧s.aA (500000+k)=some ⟨false,false,.flts A⟩∧s.aA (600000+k)=some ⟨false,false,.flts B⟩
theorem at1 (Γ:Env) (T6:Γ.has 106 rr) (T7:Γ.has 105 rl) (Cc:Γ.has 96 ku) (V7:Γ.has 45 s0) (V8:Γ.has 47 s3) (ds:List D) (h:zS.pre ds):bK Γ aci acj ds fun d=>d=zS.res ds:=by
 obtain⟨L,rfl,dz,aJ⟩:=h
 have bO:zS.res [.recs 2 (hU L)]= .agg [.flts (fF false L),.flts (fF true L)]:=by simp only[zS,abC]
 rw[bO,gx]
 have ah6:(hU L).length=L.length:=List.length_map ..
 have Hs:∀i (h:i<L.length),(hU L).getD i []=[.int .i64 L[i].1,.int .i64 L[i].2]:=fun i h=>asB h
 generalize hU L=R at*
 unfold aci acj
 refine bC (fun s=>s.af 0= .d (.recs 2 R)∧dD 2 0 [] [] s) ?_ ?_
 ·simp (maxSteps:=9^9) only[↓al,ak,simprocAttr,dD]
 rintro s ⟨h0,h2,aW,bS,d2⟩
 refine bC (fun s=>s.af 0= .d (.recs 2 R)∧dD 2 0 [] [] s∧s.af 3= .d (.int .i64 3)) ?_ ?_
 ·simp (maxSteps:=9^9) only[↓al,ak,simprocAttr,h0,h2,aW,bS,d2,dD]
 clear h0 h2 aW bS d2
 rintro s ⟨h0,⟨h2,aW,bS,d2⟩,aq⟩
 refine cB (fun s=>∃q:Nat,3≤q∧q≤14∧(∀i (h:i<L.length),L[i].2≤q)∧s.af 0= .d (.recs 2 R)∧dD 2 0 [] [] s∧s.af 3= .d (.int .i64 q)) ?_ ?_
 ·refine bC (fun s=>s.af 0= .d (.recs 2 R)∧dD 2 0 [] [] s∧s.af 3= .d (.int .i64 3)∧s.af 4= .d (.int .i64 0)) ?_ ?_
  ·simp (maxSteps:=9^9) only[↓al,ak,simprocAttr,h0,h2,aW,bS,d2,aq,dD]
  clear h0 h2 aW bS d2 aq
  rintro s aE
  rw[ka]
  refine eV (fun s=>∃i q:Nat,i≤L.length∧3≤q∧q≤14∧(∀j (h:j<L.length),j<i→L[j].2≤q)∧s.af 0= .d (.recs 2 R)∧dD 2 0 [] [] s∧s.af 3= .d (.int .i64 q)∧s.af 4= .d (.int .i64 i)) (fun s=>match s.af 4 with| .d (.int _ n)=>(2000 - n).toNat|_=>0) ⟨0,3,by omega,by omega,by omega,fun j _ h=>by omega,aE⟩ ?_
  clear aE
  rintro s ⟨i,q,hi,gF,aiE,aO,h0,⟨h2,aW,bS,d2⟩,aq,aK⟩
  have aN:((i:Nat):Int)+1=((i+1:Nat):Int):=by omega
  have i1:aI ((i+1:Nat):Int):=by simp only[aI];omega
  by_cases c:i<L.length
  ·have j5:(i:Int)<(R.length:Int):=by omega
   have dr:(0:Int)≤(i:Int):=by omega
   have ar:=Hs i c
   have hm:=dz _ (List.getElem_mem c)
   generalize b9:L[i].1=K at*
   generalize cw:L[i].2=Q at*
   have e1:∀qy:Nat,q≤qy→Q≤qy→∀j (h:j<L.length),j<i+1→L[j].2≤qy:=fun qy ct db j h aF=>by
    rcases (by omega:j<i∨j=i)with k|rfl
    ·have:=aO j h k;omega
    ·rw[cw];exact db
   by_cases Ay:(Q:Int)>(q:Int)
   ·simp (maxSteps:=9^9) only[↓al,ak,simprocAttr,h0,h2,aW,bS,d2,aq,aK,j5,dr,ar,Ay,aN,i1,dD,Int.toNat_natCast,List.drop_succ_cons,List.drop_zero]
    exact⟨⟨i+1,Q,by omega,by omega,by omega,e1 Q (by omega) (by omega),rfl,rfl⟩,by omega⟩
   ·simp (maxSteps:=9^9) only[↓al,ak,simprocAttr,h0,h2,aW,bS,d2,aq,aK,j5,dr,ar,Ay,aN,i1,dD,Int.toNat_natCast,List.drop_succ_cons,List.drop_zero]
    exact⟨⟨i+1,q,by omega,by omega,by omega,e1 q (by omega) (by omega),rfl,rfl⟩,by omega⟩
  ·have j5:¬((i:Int)<(R.length:Int)):=by omega
   simp (maxSteps:=9^9) only[↓al,ak,simprocAttr,h0,h2,aW,bS,d2,aq,aK,j5,dD]
   exact⟨q,gF,aiE,(fun j h=>aO j h (by omega)),rfl⟩
 clear h0 h2 aW bS d2 aq
 rintro s ⟨q,gF,aiE,aO,h0,⟨h2,aW,bS,d2⟩,aq⟩
 have LV:rr.pre [.int .i64 q,.int .i64 160]:=⟨q,160,rfl,gF,by omega,by omega,by omega⟩
 have HQ:rr.res [.int .i64 q,.int .i64 160]=vX 160 (q - 2):=by
  simp only[rr,show ((q:Int) - 2).toNat=q - 2 by omega]
 obtain⟨H,oz⟩:∃H,vX 160 (q - 2)= .recs 12 H:=⟨_,rfl⟩
 rw[oz]at HQ
 refine bC (fun s=>s.af 0= .d (.recs 2 R)∧dD 2 0 [] [] s∧s.af 5= .d (.recs 12 H)) ?_ ?_
 ·simp (maxSteps:=9^9) only[↓al,ak,simprocAttr,h0,h2,aW,bS,d2,aq,dD,T6,LV,HQ]
 clear h0 h2 aW bS d2 aq
 rintro s ⟨h0,⟨h2,aW,bS,d2⟩,aG⟩
 refine bC (fun s=>s.af 0= .d (.recs 2 R)∧dD 2 0 [] [] s∧s.af 5= .d (.recs 12 H)∧dD 6 0 [] [] s) ?_ ?_
 ·simp (maxSteps:=9^9) only[↓al,ak,simprocAttr,h0,h2,aW,bS,d2,aG,dD]
 clear h0 h2 aW bS d2 aG
 rintro s ⟨h0,⟨h2,aW,bS,d2⟩,aG,⟨aM,aY,fL,d6⟩⟩
 refine cB (fun s=>dD 2 0 [] [] s∧dD 6 L.length (fF false L) (fF true L) s) ?_ ?_
 rotate_left
 ·clear h0 h2 aW bS d2 aG aM aY fL d6
  rintro s ⟨⟨h2,aW,bS,d2⟩,aM,aY,fL,d6⟩
  have cI:=yh false L
  have dS:=yh true L
  generalize fF false L=A at*
  generalize fF true L=B at*
  simp (maxSteps:=9^9) only[↓al,ak,simprocAttr,h2,aW,bS,d2,aM,aY,fL,d6,cI,dS]
  try rw[←cI,List.take_length]
  try rw[cI,←dS,List.take_length]
 refine bC (fun s=>s.af 0= .d (.recs 2 R)∧dD 2 0 [] [] s∧s.af 5= .d (.recs 12 H)∧dD 6 0 [] [] s∧s.af 7= .d (.int .i64 0)) ?_ ?_
 ·simp (maxSteps:=9^9) only[↓al,ak,simprocAttr,h0,h2,aW,bS,d2,aG,aM,aY,fL,d6,dD]
 clear h0 h2 aW bS d2 aG aM aY fL d6
 rintro s aE
 rw[ka]
 refine eV (fun s=>∃i:Nat,i≤L.length∧s.af 0= .d (.recs 2 R)∧dD 2 0 [] [] s∧s.af 5= .d (.recs 12 H)∧dD 6 i (fF false (L.take i)) (fF true (L.take i)) s∧s.af 7= .d (.int .i64 i)) (fun s=>match s.af 7 with| .d (.int _ n)=>(2000 - n).toNat|_=>0) ⟨0,by omega,aE⟩ ?_
 clear aE
 rintro s ⟨i,hi,h0,⟨h2,aW,bS,d2⟩,aG,⟨aM,aY,fL,d6⟩,aS⟩
 by_cases c:i<L.length
 rotate_left
 ·have j5:¬((i:Int)<(R.length:Int)):=by omega
  obtain rfl:i=L.length:=by omega
  rw[List.take_length]at fL d6
  simp (maxSteps:=9^9) only[↓al,ak,simprocAttr,h0,h2,aW,bS,d2,aG,aM,aY,fL,d6,aS,j5,dD]
 have j5:(i:Int)<(R.length:Int):=by omega
 have dr:(0:Int)≤(i:Int):=by omega
 have aN:((i:Nat):Int)+1=((i+1:Nat):Int):=by omega
 have i1:aI ((i+1:Nat):Int):=by simp only[aI];omega
 have ar:=Hs i c
 obtain⟨at2,b9⟩:=dz _ (List.getElem_mem c)
 have axE:=aO i c
 have s1:=ZN false c
 have s2:=ZN true c
 have cI:=yh false (L.take i)
 have dS:=yh true (L.take i)
 have s5:=yh false (L.take (i+1))
 have qz:=yh true (L.take (i+1))
 rw[List.length_take,Nat.min_eq_left (by omega)]at cI dS s5 qz
 generalize L[i].1=K at*
 generalize L[i].2=Q at*
 have b4:=ft K Q
 have hH:a0 (an K Q)≤14:=jd at2
 have aAF:a0 (bV (an K Q))≤q:=at0 b4 gF (Nat.le_trans (CU K (by omega)) axE)
 have L1:rl.pre [.agg [.int .i64 K,.int .i64 Q],.int .i64 160,.recs 12 H]:=⟨K,Q,160,q - 2,by rw[oz];rfl,by omega,b9,pI b4 hH,by omega,by omega,by omega⟩
 have HR:rl.res [.agg [.int .i64 K,.int .i64 Q],.int .i64 160,.recs 12 H]=iB (dh (an K Q) ((160+64*0:Nat):Int)):=by simp only[rl,Int.toNat_natCast];rfl
 have e0:=EH (b:=false) (k:=0) b4 hH (by omega)
 have gw:=EH (b:=true) (k:=0) b4 hH (by omega)
 have t1:=Nw (b:=false) (k:=0) b4 hH (by omega)
 have t2:=Nw (b:=true) (k:=0) b4 hH (by omega)
 have fp:s0.pre [.agg [.int .i64 K,.int .i64 Q]]:=⟨K,Q,rfl,by omega,hH,b9⟩
 have ey:s0.res [.agg [.int .i64 K,.int .i64 Q]]= .flt (bG false (an K Q)):=by simp only[s0,Int.toNat_natCast]
 have qL:s3.pre [.agg [.int .i64 K,.int .i64 Q]]:=⟨K,Q,rfl,by omega,hH,b9⟩
 have qM:s3.res [.agg [.int .i64 K,.int .i64 Q]]= .flt (bG true (an K Q)):=by simp only[s3,Int.toNat_natCast]
 have qH:∀p:dL,fP false p=p.c:=fun _=>rfl
 have es:∀p:dL,fP true p=p.s:=fun _=>rfl
 rw[qH]at e0 t1
 rw[es]at gw t2
 generalize dh (an K Q) ((160+64*0:Nat):Int)=p at*
 have p1:ku.pre [a2 p.c]:=⟨_,rfl,e0⟩
 have bA:ku.res [a2 p.c]=y9 p.c:=by simp only[ku,a2,aZ,dY]
 have cq:ku.pre [a2 p.s]:=⟨_,rfl,gw⟩
 have bX:ku.res [a2 p.s]=y9 p.s:=by simp only[ku,a2,aZ,dY]
 unfold y9 at bA bX
 unfold iB a2 aZ at HR
 unfold a2 aZ at p1 bA cq bX
 generalize bG false (an K Q)=zp at*
 generalize bG true (an K Q)=fs at*
 generalize cT p.c.lo=u at*
 generalize cT p.c.hi=pq at*
 generalize cT p.s.lo=v at*
 generalize cT p.s.hi=cR at*
 generalize fF false (L.take i)=A at*
 generalize fF true (L.take i)=B at*
 generalize axF:fF false (L.take (i+1))=A' at*
 generalize axG:fF true (L.take (i+1))=DT at*
 have qG:=aS
 clear aO dz Hs ah6 e0 gw qH es
 refine bC (fun s=>s.af 0= .d (.recs 2 R)∧dD 2 0 [] [] s∧s.af 5= .d (.recs 12 H)∧dD 6 i A B s∧s.af 7= .d (.int .i64 i)) ?_ ?_
 ·simp (maxSteps:=9^9) only[↓al,ak,simprocAttr,h0,h2,aW,bS,d2,aG,aM,aY,fL,d6,aS,j5,dD]
 clear h0 h2 aW bS d2 aG aM aY fL d6 aS
 rintro s ⟨h0,⟨h2,aW,bS,d2⟩,aG,⟨aM,aY,fL,d6⟩,aS⟩
 refine bC (fun s=>s.af 0= .d (.recs 2 R)∧dD 2 0 [] [] s∧s.af 5= .d (.recs 12 H)∧dD 6 (i+1) A' DT s∧s.af 7= .d (.int .i64 i)) ?_ ?_
 rotate_left
 ·clear h0 h2 aW bS d2 aG aM aY fL d6 aS
  rintro s ⟨h0,⟨h2,aW,bS,d2⟩,aG,⟨aM,aY,fL,d6⟩,aS⟩
  simp (maxSteps:=9^9) only[↓al,ak,simprocAttr,h0,h2,aW,bS,d2,aG,aM,aY,fL,d6,aS,aN,i1,dD]
  exact⟨⟨i+1,by omega,⟨rfl,by rw[axF],by rw[axG]⟩,rfl⟩,by simp only[qG];omega⟩
 rw[ka]
 refine bC (fun s=>s.af 0= .d (.recs 2 R)∧dD 2 0 [] [] s∧s.af 5= .d (.recs 12 H)∧dD 6 i A B s∧s.af 7= .d (.int .i64 i)∧cL 8 p.c s∧cL 9 p.s s) ?_ ?_
 ·simp (maxSteps:=9^9) only[↓al,ak,simprocAttr,h0,h2,aW,bS,d2,aG,aM,aY,fL,d6,aS,j5,dr,ar,dD,cL,T7,L1,HR,Int.toNat_natCast]
 clear h0 h2 aW bS d2 aG aM aY fL d6 aS
 rintro s ⟨h0,⟨h2,aW,bS,d2⟩,aG,⟨aM,aY,fL,d6⟩,aS,⟨bn,bZ⟩,bH,cD⟩
 refine bC (fun s=>s.af 0= .d (.recs 2 R)∧dD 2 0 [] [] s∧s.af 5= .d (.recs 12 H)∧dD 6 i A B s∧s.af 7= .d (.int .i64 i)∧cL 9 p.s s∧s.af 10= .d (.flt u)∧s.af 11= .d (.bool (cW u pq))) ?_ ?_
 ·simp (maxSteps:=9^9) only[↓al,ak,simprocAttr,h0,h2,aW,bS,d2,aG,aM,aY,fL,d6,aS,bn,bZ,bH,cD,dD,cL,Cc,p1,bA]
 clear h0 h2 aW bS d2 aG aM aY fL d6 aS bn bZ bH cD
 rintro s ⟨h0,⟨h2,aW,bS,d2⟩,aG,⟨aM,aY,fL,d6⟩,aS,⟨bH,cD⟩,bI,cv⟩
 refine bC (fun s=>s.af 0= .d (.recs 2 R)∧dD 2 0 [] [] s∧s.af 5= .d (.recs 12 H)∧dD 6 i A B s∧s.af 7= .d (.int .i64 i)∧s.af 10= .d (.flt u)∧s.af 11= .d (.bool (cW u pq))∧s.af 12= .d (.flt v)∧s.af 13= .d (.bool (cW v cR))) ?_ ?_
 ·simp (maxSteps:=9^9) only[↓al,ak,simprocAttr,h0,h2,aW,bS,d2,aG,aM,aY,fL,d6,aS,bH,cD,bI,cv,dD,cL,Cc,cq,bX]
 clear h0 h2 aW bS d2 aG aM aY fL d6 aS bH cD bI cv
 rintro s ⟨h0,⟨h2,aW,bS,d2⟩,aG,⟨aM,aY,fL,d6⟩,aS,bI,cv,cA,dn⟩
 refine bC (fun s=>s.af 0= .d (.recs 2 R)∧dD 2 0 [] [] s∧s.af 5= .d (.recs 12 H)∧dD 6 i A B s∧s.af 7= .d (.int .i64 i)∧s.af 10= .d (.flt zp)∧s.af 12= .d (.flt v)∧s.af 13= .d (.bool (cW v cR))) ?_ ?_
 ·cases hf:cW u pq with
  |true=>
   have t1:=t1 hf
   subst t1
   rw[hf]at cv
   simp (maxSteps:=9^9) only[↓al,ak,simprocAttr,h0,h2,aW,bS,d2,aG,aM,aY,fL,d6,aS,bI,cv,cA,dn,dD,Bool.not_true]
  |false=>
   rw[hf]at cv
   simp (maxSteps:=9^9) only[↓al,ak,simprocAttr,h0,h2,aW,bS,d2,aG,aM,aY,fL,d6,aS,bI,cv,cA,dn,j5,dr,ar,dD,V7,fp,ey,Bool.not_false,Int.toNat_natCast]
 clear h0 h2 aW bS d2 aG aM aY fL d6 aS bI cv cA dn t1
 rintro s ⟨h0,⟨h2,aW,bS,d2⟩,aG,⟨aM,aY,fL,d6⟩,aS,bI,cA,dn⟩
 refine bC (fun s=>s.af 0= .d (.recs 2 R)∧dD 2 0 [] [] s∧s.af 5= .d (.recs 12 H)∧dD 6 i A B s∧s.af 7= .d (.int .i64 i)∧s.af 10= .d (.flt zp)∧s.af 12= .d (.flt fs)) ?_ ?_
 ·cases hf:cW v cR with
  |true=>
   have t2:=t2 hf
   subst t2
   rw[hf]at dn
   simp (maxSteps:=9^9) only[↓al,ak,simprocAttr,h0,h2,aW,bS,d2,aG,aM,aY,fL,d6,aS,bI,cA,dn,dD,Bool.not_true]
  |false=>
   rw[hf]at dn
   simp (maxSteps:=9^9) only[↓al,ak,simprocAttr,h0,h2,aW,bS,d2,aG,aM,aY,fL,d6,aS,bI,cA,dn,j5,dr,ar,dD,V8,qL,qM,Bool.not_false,Int.toNat_natCast]
 clear h0 h2 aW bS d2 aG aM aY fL d6 aS bI cA dn t2
 rintro s ⟨h0,⟨h2,aW,bS,d2⟩,aG,⟨aM,aY,fL,d6⟩,aS,bI,cA⟩
 have r2:i+1≤b1:=by simp only[b1];omega
 refine bC (fun s=>s.af 0= .d (.recs 2 R)∧dD 2 0 [] [] s∧s.af 5= .d (.recs 12 H)∧s.af 6= .box 6 0∧s.aA 6=some ⟨false,false,.cells [.own 500006 0 (i+1),.own 600006 0 i]⟩∧s.aA 500006=some ⟨false,false,.flts A'⟩∧s.aA 600006=some ⟨false,false,.flts B⟩∧s.af 7= .d (.int .i64 i)∧s.af 12= .d (.flt fs)) ?_ ?_
 ·simp (maxSteps:=9^9) only[↓al,ak,simprocAttr,h0,h2,aW,bS,d2,aG,aM,aY,fL,d6,aS,bI,cA,dD,s1,cI,s5,r2]
 clear h0 h2 aW bS d2 aG aM aY fL d6 aS bI cA
 rintro s ⟨h0,⟨h2,aW,bS,d2⟩,aG,aM,aY,fL,d6,aS,cA⟩
 simp (maxSteps:=9^9) only[↓al,ak,simprocAttr,h0,h2,aW,bS,d2,aG,aM,aY,fL,d6,aS,cA,dD,s2,dS,qz,r2]
def fG (q n:Nat):List (Int×Nat):=(List.range n).map fun k:Nat=>((k:Int),q)
def An:br where
 pre:=fun ds=>∃q n:Nat,ds=[.int .i64 q,.int .i64 n]∧q≤14∧n≤1000
 res:=fun ds=>match ds with
  |[.int _ q,.int _ n]=> .agg [.flts (fF false (fG q.toNat n.toNat)),.flts (fF true (fG q.toNat n.toNat))]
  |_=> .nilp
theorem A3 (q n:Nat):(fG q n).length=n:=by unfold fG;rw[List.length_map,List.length_range]
theorem aob (q n:Nat):hU (fG q n)++[[.int .i64 n,.int .i64 q]]=hU (fG q (n+1)):=by
 unfold fG hU;rw[List.range_succ,List.map_append,List.map_append];rfl
theorem ahR (Γ:Env) (at3:Γ.has 104 zS) (ds:List D) (h:An.pre ds):bK Γ Vo agI ds fun d=>d=An.res ds:=by
 obtain⟨q,n,rfl,aO,aJ⟩:=h
 have bO:An.res [.int .i64 q,.int .i64 n]= .agg [.flts (fF false (fG q n)),.flts (fF true (fG q n))]:=by simp only[An,Int.toNat_natCast]
 rw[bO,gx]
 have ta:zS.pre [.recs 2 (hU (fG q n))]:=⟨_,rfl,fun p aQ=>by
  unfold fG at aQ
  rw[List.mem_map]at aQ
  obtain⟨k,ad,rfl⟩:=aQ
  rw[List.mem_range]at ad
  exact⟨aO,by simp only[aI];omega⟩,by rw[A3];exact aJ⟩
 have r3:zS.res [.recs 2 (hU (fG q n))]= .agg [.flts (fF false (fG q n)),.flts (fF true (fG q n))]:=by simp only[zS,abC]
 generalize fF false (fG q n)=A at*
 generalize fF true (fG q n)=B at*
 unfold Vo agI
 refine bC (fun s=>s.af 0= .d (.int .i64 q)∧s.af 1= .d (.int .i64 n)∧dD 4 0 [] [] s) ?_ ?_
 ·simp (maxSteps:=9^9) only[↓al,ak,simprocAttr,dD]
 rintro s ⟨h0,h1,aK,a9,r5,d4⟩
 refine bC (fun s=>s.af 0= .d (.int .i64 q)∧s.af 1= .d (.int .i64 n)∧dD 4 0 [] [] s∧s.af 5= .own 5 0 0∧s.aA 5=some ⟨false,false,.recs 2 []⟩) ?_ ?_
 ·simp (maxSteps:=9^9) only[↓al,ak,simprocAttr,h0,h1,aK,a9,r5,d4,dD]
 clear h0 h1 aK a9 r5 d4
 rintro s ⟨h0,h1,⟨aK,a9,r5,d4⟩,aG,bq⟩
 refine cB (fun s=>dD 4 0 [] [] s∧s.af 5= .own 5 0 n∧s.aA 5=some ⟨false,false,.recs 2 (hU (fG q n))⟩) ?_ ?_
 rotate_left
 ·clear h0 h1 aK a9 r5 d4 aG bq
  rintro s ⟨⟨aK,a9,r5,d4⟩,aG,bq⟩
  have aH:(hU (fG q n)).length=n:=by unfold hU;rw[List.length_map,A3]
  have ae:(hU (fG q n)).take n=hU (fG q n):=List.take_of_length_le (by omega)
  generalize hU (fG q n)=R at*
  simp (maxSteps:=9^9) only[↓al,ak,simprocAttr,aK,a9,r5,d4,aG,bq,aH,ae,at3,ta,r3]
  try trivial
 refine bC (fun s=>s.af 0= .d (.int .i64 q)∧s.af 1= .d (.int .i64 n)∧dD 4 0 [] [] s∧s.af 5= .own 5 0 0∧s.aA 5=some ⟨false,false,.recs 2 []⟩∧s.af 6= .d (.int .i64 0)) ?_ ?_
 ·simp (maxSteps:=9^9) only[↓al,ak,simprocAttr,h0,h1,aK,a9,r5,d4,aG,bq,dD]
 clear h0 h1 aK a9 r5 d4 aG bq
 rintro s aE
 rw[ka]
 refine eV (fun s=>∃i:Nat,i≤n∧s.af 0= .d (.int .i64 q)∧s.af 1= .d (.int .i64 n)∧dD 4 0 [] [] s∧s.af 5= .own 5 0 i∧s.aA 5=some ⟨false,false,.recs 2 (hU (fG q i))⟩∧s.af 6= .d (.int .i64 i)) (fun s=>match s.af 6 with| .d (.int _ n)=>(2000 - n).toNat|_=>0) ⟨0,by omega,aE⟩ ?_
 clear aE
 rintro s ⟨i,hi,h0,h1,⟨aK,a9,r5,d4⟩,aG,bq,aM⟩
 by_cases c:(i:Int)<(n:Int)
 ·have aE:=aob q i
  have aH:(hU (fG q i)).length=i:=by unfold hU;rw[List.length_map,A3]
  have GK:(hU (fG q (i+1))).length=i+1:=by unfold hU;rw[List.length_map,A3]
  have aN:((i:Nat):Int)+1=((i+1:Nat):Int):=by omega
  have i1:aI ((i+1:Nat):Int):=by simp only[aI];omega
  have r2:i+1≤b1:=by simp only[b1];omega
  generalize hU (fG q i)=R at*
  generalize Hy:hU (fG q (i+1))=zo at*
  simp (maxSteps:=9^9) only[↓al,ak,simprocAttr,h0,h1,aK,a9,r5,d4,aG,bq,aM,c,aN,i1,aE,aH,GK,r2,dD]
  exact⟨⟨i+1,by omega,rfl,by rw[Hy],rfl⟩,by omega⟩
 ·obtain rfl:i=n:=by omega
  simp (maxSteps:=9^9) only[↓al,ak,simprocAttr,h0,h1,aK,a9,r5,d4,aG,bq,aM,c,dD]
end RV.Dr
namespace RV.Dr
open Go RV RR
set_option linter.unusedSimpArgs false
set_option linter.unusedVariables false
set_option maxRecDepth 100000
set_option maxHeartbeats 8000000
theorem arG {q n i:Nat} (b:Bool) (h:i<n):(fF b (fG q n)).getD i 0=bG b (an (i:Int) q):=by
 rw[List.getD_eq_getElem?_getD,List.getElem?_eq_getElem (by rw[yh,A3];exact h)]
 unfold fF fG
 simp
theorem tsQ (b:Bool) {a:Nat} (h:a<1152921504606846976) (aO:a0 a≤14):Fin (bG b a):=ht.fin (.inl (jR h aO))
theorem ZO (b:Bool) {q n:Nat} (aO:q≤14):kn ((dw q n).map (eb b)) (fF b (fG q n))=true:=by
 refine M6 (by rw[sc,yh,A3]) fun i hi=> ?_
 rw[sc]at hi
 rw[arG b hi];exact CQ (Sh b aO hi)
def HZ:br where
 pre:=fun ds=>∃K Q q m:Int,ds=[.agg [.int .i64 K,.int .i64 Q],.int .u8 q,.int .u8 m]∧0≤q∧q<256∧0≤m∧m<256
 res:=fun _=> .bool true
theorem Av (Γ:Env) (v5:Γ.has 42 hP) (qx:Γ.has 43 iy) (pk:Γ.has 44 dX) (pn:Γ.has 46 ed) (V7:Γ.has 45 s0) (V8:Γ.has 47 s3) (Lr:Γ.has 49 j3) (axH:Γ.has 50 An) (VX:Γ.has 48 qv) (ds:List D) (h:HZ.pre ds):bK Γ qz Ce ds fun d=>d=HZ.res ds:=by
 obtain⟨cn,gg,q,m,rfl,ep,dP,HP,e0⟩:=h
 have bO:∀ds,HZ.res ds= .bool true:=fun _=>rfl
 have xR:hP.pre []:=rfl
 have xS:hP.res []= .bool true:=rfl
 have qO:iy.pre [.agg [.int .i64 cn,.int .i64 gg]]:=⟨_,_,rfl⟩
 have rg:iy.res [.agg [.int .i64 cn,.int .i64 gg]]= .bool (jT [.int .i64 cn,.int .i64 gg]):=rfl
 obtain⟨k,ad⟩:∃k:Nat,q.tmod 6=(k:Int):=⟨(q.tmod 6).toNat,by have:=Int.tmod_nonneg 6 ep;omega⟩
 have aAe:k<6:=by have:=Int.tmod_lt_of_pos q (show (0:Int)<6 by decide);omega
 obtain⟨P,uM⟩:∃P:Nat,P=2^k:=⟨_,rfl⟩
 have axc:1≤P:=by rw[uM];exact Nat.one_le_two_pow
 have atZ:P≤64:=by rw[uM,show 64=2^6 by decide];exact Nat.pow_le_pow_right (by decide) (by omega)
 have VZ:k≤64:=by omega
 have mI:(1:Int)*2^k=(P:Int):=by
  rw[Int.one_mul,uM];exact(Int.natCast_pow 2 k).symm
 obtain⟨n,aJ⟩:∃n:Nat,m.tmod ((P:Int)+1)=(n:Int):=⟨(m.tmod ((P:Int)+1)).toNat,by have:=Int.tmod_nonneg ((P:Int)+1) HP;omega⟩
 have axd:n≤P:=by have:=Int.tmod_lt_of_pos m (show (0:Int)<(P:Int)+1 by omega);omega
 rw[bO,gx]
 unfold qz Ce
 refine bC (fun s=>s.af 1= .d (.int .u8 q)∧s.af 2= .d (.int .u8 m)∧bN s 3 [.d (.int .i64 cn),.d (.int .i64 gg)]) (by simp (maxSteps:=9^9) only[↓al,ak,simprocAttr,bN]) ?_
 rintro s ⟨h1,h2,aq,a5⟩
 refine bC (fun s=>s.af 7= .d (.bool true)∧s.af 1= .d (.int .u8 q)∧s.af 2= .d (.int .u8 m)∧bN s 3 [.d (.int .i64 cn),.d (.int .i64 gg)]) (by simp (maxSteps:=9^9) only[↓al,ak,simprocAttr,h1,h2,aq,a5,bN,v5,xR,xS]) ?_
 clear h1 h2 aq a5
 rintro s ⟨aS,h1,h2,aq,a5⟩
 refine bC (fun s=>(jT [.int .i64 cn,.int .i64 gg])=true∧s.af 7= .d (.bool true)∧s.af 1= .d (.int .u8 q)∧s.af 2= .d (.int .u8 m)∧bN s 3 [.d (.int .i64 cn),.d (.int .i64 gg)]) ?_ ?_
 ·generalize (jT [.int .i64 cn,.int .i64 gg])=t at*
  cases t with
  |false=>simp (maxSteps:=9^9) only[↓al,ak,simprocAttr,aS,h1,h2,aq,a5,bN,qx,qO,rg,Bool.not_false]
  |true=>simp (maxSteps:=9^9) only[↓al,ak,simprocAttr,aS,h1,h2,aq,a5,bN,qx,qO,rg,Bool.not_true]
 clear aS h1 h2 aq a5 qO rg
 rintro s ⟨bb,aS,h1,h2,aq,a5⟩
 obtain⟨dt,rfl,D4,ax,WN⟩:=Ew bb
 have WQ:aI q:=by simp only[aI];omega
 have de:aI m:=by simp only[aI];omega
 refine bC (fun s=>s.af 7= .d (.bool true)∧s.af 8= .d (.int .i64 k)∧s.af 2= .d (.int .u8 m)∧bN s 3 [.d (.int .i64 cn),.d (.int .i64 dt)]) (by simp (maxSteps:=9^9) only[↓al,ak,simprocAttr,aS,h1,h2,aq,a5,WQ,ad,bN];first|done|decide) ?_
 clear aS h1 h2 aq a5
 rintro s ⟨aS,bn,h2,aq,a5⟩
 have iR:(0:Int)≤(k:Int):=by omega
 have WR:aI (P:Int):=by simp only[aI];omega
 have V0:aI ((P:Int)+1):=by simp only[aI];omega
 have V1:¬((P:Int)+1=0):=by omega
 refine bC (fun s=>s.af 7= .d (.bool true)∧s.af 8= .d (.int .i64 k)∧s.af 9= .d (.int .i64 n)∧bN s 3 [.d (.int .i64 cn),.d (.int .i64 dt)]) (by simp (maxSteps:=9^9) only[↓al,ak,simprocAttr,aS,bn,h2,aq,a5,de,iR,VZ,mI,WR,V0,V1,aJ,bN,ne_eq,not_false_eq_true]) ?_
 clear aS bn h2 aq a5
 rintro s ⟨aS,bn,bH,aq,a5⟩
 obtain⟨a,a6⟩:∃a,a=an cn dt:=⟨_,rfl⟩
 have b4:a<1152921504606846976:=a6▸ft _ _
 have hH:a0 a≤14:=a6▸jd D4
 have v1:cW (bG false a) (bG false a)=true:=tr (tsQ _ b4 hH)
 have v2:cW (bG true a) (bG true a)=true:=tr (tsQ _ b4 hH)
 have p1:dX.pre [.agg [.int .i64 cn,.int .i64 dt]]:=⟨cn,dt,rfl,by omega,a6▸hH⟩
 have bA:dX.res [.agg [.int .i64 cn,.int .i64 dt]]= .flt (bG false a):=by simp only[dX,Int.toNat_natCast,←a6]
 have cq:ed.pre [.agg [.int .i64 cn,.int .i64 dt]]:=⟨cn,dt,rfl,by omega,a6▸hH⟩
 have bX:ed.res [.agg [.int .i64 cn,.int .i64 dt]]= .flt (bG true a):=by simp only[ed,Int.toNat_natCast,←a6]
 have fK:s0.pre [.agg [.int .i64 cn,.int .i64 dt]]:=⟨cn,dt,rfl,by omega,a6▸hH,ax⟩
 have eJ:s0.res [.agg [.int .i64 cn,.int .i64 dt]]= .flt (bG false a):=by simp only[s0,Int.toNat_natCast,←a6]
 have Av:s3.pre [.agg [.int .i64 cn,.int .i64 dt]]:=⟨cn,dt,rfl,by omega,a6▸hH,ax⟩
 have Ce:s3.res [.agg [.int .i64 cn,.int .i64 dt]]= .flt (bG true a):=by simp only[s3,Int.toNat_natCast,←a6]
 have qD:j3.pre [.int .i64 k,.int .i64 n]:=⟨k,n,rfl,by omega,by omega⟩
 have qE:j3.res [.int .i64 k,.int .i64 n]= .agg [.flts ((dw k n).map (eb false)),.flts ((dw k n).map (eb true))]:=by simp only[j3,Int.toNat_natCast]
 have LW:An.pre [.int .i64 k,.int .i64 n]:=⟨k,n,rfl,by omega,by omega⟩
 have LX:An.res [.int .i64 k,.int .i64 n]= .agg [.flts (fF false (fG k n)),.flts (fF true (fG k n))]:=by simp only[An,Int.toNat_natCast]
 have iA:qv.pre [.agg [.flts ((dw k n).map (eb false)),.flts ((dw k n).map (eb true))],.agg [.flts (fF false (fG k n)),.flts (fF true (fG k n))]]:=
  ⟨_,_,_,_,rfl,by rw[sc];omega,by rw[sc];omega,by rw[yh,A3];omega,by rw[yh,A3];omega⟩
 have ic:qv.res [.agg [.flts ((dw k n).map (eb false)),.flts ((dw k n).map (eb true))],.agg [.flts (fF false (fG k n)),.flts (fF true (fG k n))]]= .bool true:=by
  show D.bool (_ && _)=_
  rw[ZO false (by omega),ZO true (by omega)];rfl
 generalize bG false a=r8 at*
 generalize bG true a=ws at*
 generalize (dw k n).map (eb false)=A at*
 generalize (dw k n).map (eb true)=B at*
 generalize fF false (fG k n)=A' at*
 generalize fF true (fG k n)=DT at*
 rw[So,RS,QV (by rfl)]
 refine ya 6 (fun s=>s.af 25= .d (.bool true)∧s.af 27= .d (.flt r8)∧s.af 29= .d (.flt r8)∧s.af 8= .d (.int .i64 k)∧s.af 9= .d (.int .i64 n)∧bN s 3 [.d (.int .i64 cn),.d (.int .i64 dt)]) ?_ ?_
 ·simp only[List.take_succ_cons,List.take_zero]
  simp (maxSteps:=9^9) only[↓al,ak,simprocAttr,aS,bn,bH,aq,a5,bN,pk,V7,p1,bA,fK,eJ]
 clear aS bn bH aq a5
 rintro s ⟨ct,db,fc,bn,bH,aq,a5⟩
 simp only[List.drop_succ_cons,List.drop_zero]
 refine ya 3 (fun s=>s.af 32= .d (.bool true)∧s.af 8= .d (.int .i64 k)∧s.af 9= .d (.int .i64 n)∧bN s 3 [.d (.int .i64 cn),.d (.int .i64 dt)]) ?_ ?_
 ·simp only[List.take_succ_cons,List.take_zero]
  simp (maxSteps:=9^9) only[↓al,ak,simprocAttr,ct,db,fc,bn,bH,aq,a5,bN,v1]
 clear ct db fc bn bH aq a5
 rintro s ⟨ct,bn,bH,aq,a5⟩
 simp only[List.drop_succ_cons,List.drop_zero]
 refine ya 4 (fun s=>s.af 32= .d (.bool true)∧s.af 34= .d (.flt ws)∧s.af 36= .d (.flt ws)∧s.af 8= .d (.int .i64 k)∧s.af 9= .d (.int .i64 n)) ?_ ?_
 ·simp only[List.take_succ_cons,List.take_zero]
  simp (maxSteps:=9^9) only[↓al,ak,simprocAttr,ct,bn,bH,aq,a5,bN,pn,V8,cq,bX,Av,Ce]
 clear ct bn bH aq a5
 rintro s ⟨ct,db,fc,bn,bH⟩
 simp only[List.drop_succ_cons,List.drop_zero]
 refine ya 3 (fun s=>s.af 39= .d (.bool true)∧s.af 8= .d (.int .i64 k)∧s.af 9= .d (.int .i64 n)) ?_ ?_
 ·simp only[List.take_succ_cons,List.take_zero]
  simp (maxSteps:=9^9) only[↓al,ak,simprocAttr,ct,db,fc,bn,bH,v2]
 clear ct db fc bn bH
 rintro s ⟨ct,bn,bH⟩
 simp only[List.drop_succ_cons,List.drop_zero]
 simp (maxSteps:=9^9) only[↓al,ak,simprocAttr,ct,bn,bH,Lr,axH,VX,qD,qE,LW,LX,iA,ic]
 try trivial
end RV.Dr
namespace RV.Dr
open Go Go.Proofs RV
set_option linter.unusedVariables false
set_option maxRecDepth 100000
set_option maxHeartbeats 4000000
theorem pm:Tryz.prog.follows .mixedOrders=true:=by kernel_rfl
def oB:Env:=Env.none
section
variable {B:Mem} (ai:sB B)
include ai
theorem lS:ah Tryz.prog B oB:=ah.none _ _
def oC:Env:=oB.add 194 yH
theorem r7:ah Tryz.prog B oC:=ah.add (lS ai) (EZ ai)
def oD:Env:=oC.add 171 ll
theorem xT:ah Tryz.prog B oD:=(r7 ai).p pm (FV _ rfl rfl)
def oE:Env:=oD.add 179 mc
theorem xU:ah Tryz.prog B oE:=(xT ai).p pm (FW _ ao)
def oF:Env:=oE.add 184 me
theorem xV:ah Tryz.prog B oF:=(xU ai).p pm (FY _ ao)
def oG:Env:=oF.add 183 sC
theorem xW:ah Tryz.prog B oG:=(xV ai).p pm (F0 _ ao)
def oH:Env:=oG.add 185 qa
theorem qF:ah Tryz.prog B oH:=(xW ai).p pm (FZ _ ao)
def oI:Env:=oH.add 151 ln
theorem qG:ah Tryz.prog B oI:=(qF ai).p pm (F2 _ ao ao ao ao)
def oJ:Env:=oI.add 152 mf
theorem xX:ah Tryz.prog B oJ:=(qG ai).p pm (F1 _)
def oK:Env:=oJ.add 134 h3
theorem xY:ah Tryz.prog B oK:=(xX ai).p pm (FB _)
def mN:Env:=oK.add 170 tV
theorem qt:ah Tryz.prog B mN:=(xY ai).p pm (FN _)
def mO:Env:=mN.add 159 sA
theorem v7:ah Tryz.prog B mO:=(qt ai).p pm (FO _)
def mP:Env:=mO.add 169 o1
theorem v8:ah Tryz.prog B mP:=(v7 ai).p pm (FP _ rfl rfl rfl rfl)
def mQ:Env:=mP.add 163 ki
theorem v9:ah Tryz.prog B mQ:=(v8 ai).p pm (Ft _)
def mR:Env:=mQ.add 173 sx
theorem wc:ah Tryz.prog B mR:=(v9 ai).o pm (FD _)
def mS:Env:=mR.add 143 il
theorem we:ah Tryz.prog B mS:=(wc ai).p pm (FJ _ rfl rfl rfl rfl)
def mT:Env:=mS.add 135 e9
theorem wh:ah Tryz.prog B mT:=(we ai).p pm (FQ _ rfl rfl rfl rfl rfl rfl)
def mU:Env:=mT.add 199 qd
theorem wi:ah Tryz.prog B mU:=(wh ai).p pm (F6 _ ao ao)
def mV:Env:=mU.add 82 hs
theorem wj:ah Tryz.prog B mV:=(wi ai).p pm (GW _ rfl rfl)
def mW:Env:=mV.add 23 sT
theorem wk:ah Tryz.prog B mW:=(wj ai).p pm (G5 _ rfl rfl)
def mX:Env:=mW.add 207 qe
theorem wm:ah Tryz.prog B mX:=(wk ai).p pm (F8 _ ao ao)
def mY:Env:=mX.add 208 tZ
theorem wo:ah Tryz.prog B mY:=(wm ai).p pm (Ge _)
def mZ:Env:=mY.add 87 sX
theorem wq:ah Tryz.prog B mZ:=(wo ai).p pm (Hi _)
def m0:Env:=mZ.add 85 mJ
theorem wu:ah Tryz.prog B m0:=(wq ai).p pm (GV _ rfl rfl)
def m1:Env:=m0.c9 162 jt
theorem wv:ah Tryz.prog B m1:=(wu ai).m pm fun a4 cs h=>Fp _ a4 cs h
def m2:Env:=m1.add 129 hp
theorem wx:ah Tryz.prog B m2:=(wv ai).p pm (FI _ rfl rfl rfl)
def m3:Env:=m2.add 138 vq
theorem wy:ah Tryz.prog B m3:=(wx ai).p pm (FT _ rfl rfl)
def m4:Env:=m3.add 192 sv
theorem wz:ah Tryz.prog B m4:=(wy ai).p pm (Fu _)
def m5:Env:=m4.c9 168 tP
theorem wA:ah Tryz.prog B m5:=(wz ai).m pm fun a4 cs h=>Fq _ rfl a4 cs h
def m6:Env:=m5.c9 172 tQ
theorem wB:ah Tryz.prog B m6:=(wA ai).m pm fun a4 cs h=>Fs _ rfl a4 cs h
def m7:Env:=m6.c9 167 oZ
theorem wC:ah Tryz.prog B m7:=(wB ai).m pm fun a4 cs h=>Fv _ rfl rfl rfl rfl rfl rfl a4 cs h
def m8:Env:=m7.add 133 ju
theorem wD:ah Tryz.prog B m8:=(wC ai).p pm (Fw _ rfl)
def m9:Env:=m8.add 191 sw
theorem wE:ah Tryz.prog B m9:=(wD ai).p pm (Fx _)
def na:Env:=m9.add 166 mb
theorem wF:ah Tryz.prog B na:=(wE ai).p pm (Fy _ rfl rfl)
def nb:Env:=na.add 131 iJ
theorem wG:ah Tryz.prog B nb:=(wF ai).p pm (Fz _ rfl rfl)
def nc:Env:=nb.add 139 iK
theorem wH:ah Tryz.prog B nc:=(wG ai).p pm (FA _ rfl rfl rfl)
def nd:Env:=nc.add 126 kM
theorem wI:ah Tryz.prog B nd:=(wH ai).p pm (FR _)
def nf:Env:=nd.add 84 kV
theorem wJ:ah Tryz.prog B nf:=(wI ai).p pm (GZ _ rfl rfl rfl rfl rfl rfl rfl rfl rfl rfl rfl rfl)
def ng:Env:=nf.add 76 pf
theorem wK:ah Tryz.prog B ng:=(wJ ai).p pm (GY _ rfl rfl)
def nh:Env:=ng.add 74 j0
theorem wL:ah Tryz.prog B nh:=(wK ai).p pm (G1 _ rfl rfl rfl rfl rfl rfl)
def ni:Env:=nh.add 88 qm
theorem wM:ah Tryz.prog B ni:=(wL ai).p pm (Hf _ rfl rfl)
def nj:Env:=ni.add 89 qn
theorem wN:ah Tryz.prog B nj:=(wM ai).p pm (Hh _ rfl rfl)
def nk:Env:=nj.add 132 o0
theorem wO:ah Tryz.prog B nk:=(wN ai).p pm (FC _ rfl rfl rfl)
def nm:Env:=nk.add 141 re
theorem nn:ah Tryz.prog B nm:=(wO ai).p pm (FU _ rfl rfl rfl rfl)
def np:Env:=nm.add 38 uF
theorem wP:ah Tryz.prog B np:=(nn ai).x pm ((nn ai).s pm (F4 _ rfl rfl)) (Hj _ rfl rfl rfl rfl rfl rfl)
def nq:Env:=np.add 32 jB
theorem wQ:ah Tryz.prog B nq:=(wP ai).p pm (G3 _ rfl rfl)
def nr:Env:=nq.add 36 lF
theorem wR:ah Tryz.prog B nr:=(wQ ai).p pm (G2 _ rfl rfl)
def ns:Env:=nr.add 86 vR
theorem wS:ah Tryz.prog B ns:=(wR ai).p pm (G7 _ rfl rfl)
def nt:Env:=ns.add 188 yM
theorem wT:ah Tryz.prog B nt:=ah.add (wS ai) (E2 B)
def nu:Env:=nt.add 161 vo
theorem wU:ah Tryz.prog B nu:=(wT ai).p pm (Gf _ rfl rfl)
def nv:Env:=nu.add 128 gN
theorem wV:ah Tryz.prog B nv:=(wU ai).p pm (FH _ rfl rfl)
def nw:Env:=nv.c9 142 o2
theorem wW:ah Tryz.prog B nw:=(wV ai).m pm fun a4 cs h=>F3 _ rfl rfl rfl rfl a4 cs h
def nx:Env:=nw.add 91 ph
theorem wX:ah Tryz.prog B nx:=(wW ai).p pm (G6 _ rfl rfl rfl rfl rfl rfl rfl rfl rfl)
def nz:Env:=nx.add 90 vS
theorem wY:ah Tryz.prog B nz:=(wX ai).p pm (G8 _ rfl rfl)
def nA:Env:=nz.c9 164 sy
theorem wZ:ah Tryz.prog B nA:=(wY ai).m pm fun a4 cs h=>FK _ rfl a4 cs h
def nB:Env:=nA.c9 202 tR
theorem w0:ah Tryz.prog B nB:=(wZ ai).m pm fun a4 cs h=>FE _ a4 cs h
def nC:Env:=nB.add 190 tS
theorem w1:ah Tryz.prog B nC:=(w0 ai).o pm (FF _ rfl rfl rfl)
def nD:Env:=nC.add 189 tU
theorem w2:ah Tryz.prog B nD:=(w1 ai).p pm (FG _ rfl rfl)
def nE:Env:=nD.c9 165 q9
theorem w3:ah Tryz.prog B nE:=(w2 ai).m pm fun a4 cs h=>FL _ rfl rfl rfl rfl rfl a4 cs h
def nF:Env:=nE.add 130 ra
theorem w4:ah Tryz.prog B nF:=(w3 ai).p pm (FM _ rfl rfl rfl rfl rfl rfl)
def nG:Env:=nF.add 79 uD
theorem w5:ah Tryz.prog B nG:=(w4 ai).p pm (G9 _ rfl rfl rfl rfl rfl rfl rfl rfl rfl rfl rfl rfl rfl rfl rfl rfl rfl rfl)
def nH:Env:=nG.add 78 vT
theorem w6:ah Tryz.prog B nH:=(w5 ai).p pm (Ha _ rfl rfl)
def nI:Env:=nH.add 77 mK
theorem w7:ah Tryz.prog B nI:=(w6 ai).p pm (Hb _ rfl rfl rfl rfl rfl rfl)
def nJ:Env:=nI.add 40 vU
theorem w8:ah Tryz.prog B nJ:=(w7 ai).p pm (Hd _ rfl rfl)
def nK:Env:=nJ.add 209 ri
theorem w9:ah Tryz.prog B nK:=(w8 ai).p pm (Ga _ ao ao ao ao)
def nL:Env:=nK.add 34 sV
theorem xa:ah Tryz.prog B nL:=(w9 ai).p pm (Hc _ rfl rfl)
def nM:Env:=nL.add 20 rR
theorem xb:ah Tryz.prog B nM:=(xa ai).p pm (He _ rfl rfl rfl rfl)
def nN:Env:=nM.add 212 rj
theorem nO:ah Tryz.prog B nN:=(xb ai).p pm (Gb _ ao ao)
def nP:Env:=nN.add 200 tY
theorem xc:ah Tryz.prog B nP:=(nO ai).x pm ((nO ai).s pm (Gg _ ao ao ao ao)) (Gh _ ao ao ao)
def nQ:Env:=nP.add 181 rk
theorem xd:ah Tryz.prog B nQ:=(xc ai).p pm (Gd _ ao ao ao ao)
def nR:Env:=nQ.add 198 tX
theorem xe:ah Tryz.prog B nR:=(xd ai).p pm (F7 _ ao ao ao ao ao)
def nS:Env:=nR.add 30 vQ
theorem xf:ah Tryz.prog B nS:=(xe ai).p pm (G4 _ rfl rfl rfl rfl)
def nT:Env:=nS.add 180 sD
theorem xg:ah Tryz.prog B nT:=(xf ai).p pm (F9 _ ao ao ao ao ao ao)
def nU:Env:=nT.add 148 rm
theorem xh:ah Tryz.prog B nU:=(xg ai).p pm (Gi _)
def nV:Env:=nU.add 150 rn
theorem xi:ah Tryz.prog B nV:=(xh ai).p pm (Gj _)
def nW:Env:=nV.add 147 lp
theorem xj:ah Tryz.prog B nW:=(xi ai).g pm (Gl _ ao ao ao ao ao)
def nX:Env:=nW.add 95 mL
theorem xk:ah Tryz.prog B nX:=(xj ai).p pm (Hp _ ao)
def nY:Env:=nX.add 97 mM
theorem xl:ah Tryz.prog B nY:=(xk ai).p pm (Hq _ ao)
def nZ:Env:=nY.add 206 uc
theorem n0:ah Tryz.prog B nZ:=(xl ai).p pm (Gr _)
def n1:Env:=nZ.add 197 mh
theorem xm:ah Tryz.prog B n1:=(n0 ai).x pm ((n0 ai).s pm (Gs _)) (Gt _ ao ao)
def n2:Env:=n1.add 176 rp
theorem xn:ah Tryz.prog B n2:=(xm ai).p pm (Gv _ ao ao ao ao ao ao)
def n3:Env:=n2.add 63 j2
theorem xo:ah Tryz.prog B n3:=(xn ai).p pm (Hr _)
def n4:Env:=n3.add 203 ua
theorem xp:ah Tryz.prog B n4:=(xo ai).p pm (Gn _ ao)
def n5:Env:=n4.add 178 qg
theorem xq:ah Tryz.prog B n5:=(xp ai).p pm (Gm _)
def n6:Env:=n5.add 204 ub
theorem xr:ah Tryz.prog B n6:=(xq ai).p pm (Gp _ ao)
def n7:Env:=n6.add 196 mg
theorem xt:ah Tryz.prog B n7:=(xr ai).p pm (Gq _ ao ao ao)
def n8:Env:=n7.add 175 mj
theorem xu:ah Tryz.prog B n8:=(xt ai).p pm (Gu _ ao)
def n9:Env:=n8.add 145 lq
theorem xv:ah Tryz.prog B n9:=(xu ai).p pm (Gx _ ao ao ao)
def oa:Env:=n9.add 177 rq
theorem xw:ah Tryz.prog B oa:=(xv ai).p pm (Gy _)
def ob:Env:=oa.add 146 ud
theorem xx:ah Tryz.prog B ob:=(xw ai).p pm (Gz _ ao ao)
def oc:Env:=ob.add 94 lJ
theorem xy:ah Tryz.prog B oc:=(xx ai).g pm (Ht _ ao ao ao ao)
def od:Env:=oc.add 44 dX
theorem xA:ah Tryz.prog B od:=(xy ai).p pm (Hu _ ao)
def oe:Env:=od.add 46 ed
theorem xB:ah Tryz.prog B oe:=(xA ai).p pm (Hv _ ao)
def og:Env:=oe.c9 100 kP
theorem xC:ah Tryz.prog B og:=(xB ai).m pm fun a4 cs h=>GC _ ao ao ao ao a4 cs h
def oh:Env:=og.c9 99 kX
theorem xD:ah Tryz.prog B oh:=(xC ai).m pm fun a4 cs h=>Hw _ rfl a4 cs h
def oi:Env:=oh.c9 98 kY
theorem xE:ah Tryz.prog B oi:=(xD ai).m pm fun a4 cs h=>Hx _ rfl a4 cs h
def oj:Env:=oi.add 102 ui
theorem xF:ah Tryz.prog B oj:=(xE ai).p pm (GD _)
def om:Env:=oj.add 103 uj
theorem xG:ah Tryz.prog B om:=(xF ai).p pm (GF _)
def oo:Env:=om.add 101 mm
theorem xH:ah Tryz.prog B oo:=(xG ai).p pm (GG _ ao ao)
def oq:Env:=oo.add 49 j3
theorem xI:ah Tryz.prog B oq:=(xH ai).p pm (Cb _ rfl ao)
def mn:Env:=oq.add 124 uh
theorem vr:ah Tryz.prog B mn:=(xI ai).p pm (GA _)
def mo:Env:=mn.add 70 rX
theorem vt:ah Tryz.prog B mo:=(vr ai).p pm (Hz _ ao)
def mq:Env:=mo.add 48 qv
theorem vu:ah Tryz.prog B mq:=(vt ai).p pm (HA _ ao)
def mr:Env:=mq.add 42 hP
theorem vv:ah Tryz.prog B mr:=(vu ai).p pm (HB _ ao ao ao ao)
def mv:Env:=mr.add 93 vW
theorem vw:ah Tryz.prog B mv:=(vv ai).p pm (Lg _)
def mw:Env:=mv.add 43 iy
theorem vx:ah Tryz.prog B mw:=(vw ai).p pm (Ls _ ao)
def mx:Env:=mw.add 107 o3
theorem vy:ah Tryz.prog B mx:=(vx ai).p pm (OH _)
def my:Env:=mx.add 156 jc
theorem vz:ah Tryz.prog B my:=(vy ai).p pm (JM _)
def mz:Env:=my.add 157 p9
theorem vA:ah Tryz.prog B mz:=(vz ai).p pm (JN _)
def mA:Env:=mz.add 144 jW
theorem vB:ah Tryz.prog B mA:=(vA ai).p pm (JU _ rfl rfl rfl rfl)
def o4:Env:=mA.add 109 fu
theorem vC:ah Tryz.prog B o4:=(vB ai).p pm (JV _ rfl rfl)
def rv:Env:=o4.add 110 lk
theorem zT:ah Tryz.prog B rv:=(vC ai).p pm (JQ _)
def ry:Env:=rv.add 59 iN
theorem zU:ah Tryz.prog B ry:=(zT ai).p pm (PA _ rfl rfl rfl rfl)
def rz:Env:=ry.add 24 hB
theorem zV:ah Tryz.prog B rz:=(zU ai).p pm (Vz _)
def rA:Env:=rz.add 136 hZ
theorem zW:ah Tryz.prog B rA:=(zV ai).p pm (ad4 _)
def rB:Env:=rA.add 112 fB
theorem zX:ah Tryz.prog B rB:=(zW ai).p pm (JT _ rfl rfl)
def rC:Env:=rB.add 113 js
theorem zY:ah Tryz.prog B rC:=(zX ai).p pm (JO _ rfl rfl rfl rfl)
def rD:Env:=rC.add 116 ma
theorem zZ:ah Tryz.prog B rD:=(zY ai).p pm (Oy _ rfl rfl)
def rE:Env:=rD.add 114 fh
theorem z0:ah Tryz.prog B rE:=(zZ ai).p pm (JP _)
def rF:Env:=rE.add 137 yJ
theorem z1:ah Tryz.prog B rF:=(z0 ai).p pm (aes _ ao ao ao ao ao)
def rG:Env:=rF.add 83 uy
theorem z2:ah Tryz.prog B rG:=(z1 ai).p pm (ag0 _)
def rH:Env:=rG.add 92 sY
theorem z3:ah Tryz.prog B rH:=(z2 ai).p pm (ahq _ ao ao ao ao)
def sE:Env:=rH.add 81 Ah
theorem z4:ah Tryz.prog B sE:=(z3 ai).p pm (ahx _ ao ao ao ao ao ao ao ao)
def vD:Env:=sE.add 80 ql
theorem De:ah Tryz.prog B vD:=(z4 ai).p pm (KT _)
def yP:Env:=vD.add 21 y4
theorem Df:ah Tryz.prog B yP:=(De ai).p pm (ahA _ ao ao)
def BH:Env:=yP.add 55 rQ
theorem J7:ah Tryz.prog B BH:=(Df ai).p pm (ag1 _ rfl rfl)
def Dg:Env:=BH.add 35 Af
theorem J8:ah Tryz.prog B Dg:=(J7 ai).p pm (aht _ ao)
def J9:Env:=Dg.add 115 jV
theorem Ub:ah Tryz.prog B J9:=(J8 ai).p pm (JR _ rfl rfl rfl rfl rfl rfl)
def Ka:Env:=J9.add 56 gn
theorem Uc:ah Tryz.prog B Ka:=(Ub ai).p pm (K2 _ rfl rfl rfl rfl rfl rfl rfl rfl rfl rfl)
def Kb:Env:=Ka.add 37 kW
theorem Ud:ah Tryz.prog B Kb:=(Uc ai).p pm (ahs _ ao)
def Kc:Env:=Kb.add 62 lE
theorem Ue:ah Tryz.prog B Kc:=(Ud ai).p pm (KU _)
def Kd:Env:=Kc.add 33 kt
theorem Uf:ah Tryz.prog B Kd:=(Ue ai).p pm (ahr _ ao)
def Ke:Env:=Kd.add 106 rr
theorem Ug:ah Tryz.prog B Ke:=(Uf ai).p pm (aeI _ ao ao ao ao ao ao)
def Kf:Env:=Ke.add 117 qc
theorem Uh:ah Tryz.prog B Kf:=(Ug ai).p pm (OI _ ao)
def Kg:Env:=Kf.add 153 yL
theorem Ui:ah Tryz.prog B Kg:=(Uh ai).p pm (aev _ ao ao)
def Kh:Env:=Kg.add 58 jz
theorem Uj:ah Tryz.prog B Kh:=(Ui ai).p pm (Pz _ rfl rfl rfl rfl)
def Ki:Env:=Kh.add 57 gC
theorem Uk:ah Tryz.prog B Ki:=(Uj ai).p pm (K3 _ rfl rfl rfl rfl rfl rfl)
def Kj:Env:=Ki.add 39 y3
theorem Ul:ah Tryz.prog B Kj:=(Uk ai).p pm (ahv _ ao ao ao)
def Kk:Env:=Kj.add 41 uH
theorem Um:ah Tryz.prog B Kk:=(Ul ai).p pm (ahu _ ao)
def Kl:Env:=Kk.add 154 BG
theorem Un:ah Tryz.prog B Kl:=(Um ai).p pm (aeJ _ ao ao ao ao ao ao)
def Km:Env:=Kl.add 155 BD
theorem Uo:ah Tryz.prog B Km:=(Un ai).p pm (aew _)
def Kn:Env:=Km.add 105 rl
theorem Up:ah Tryz.prog B Kn:=(Uo ai).p pm (aey _ ao ao ao ao)
def Ko:Env:=Kn.add 51 lI
theorem Uq:ah Tryz.prog B Ko:=(Up ai).p pm (ah7 _ ao ao ao)
def Kp:Env:=Ko.add 201 uf
theorem Ur:ah Tryz.prog B Kp:=(Uq ai).p pm (atK _ ao)
def Kq:Env:=Kp.add 182 zR
theorem Us:ah Tryz.prog B Kq:=(Ur ai).p pm (atM _ ao ao ao ao ao)
def Kr:Env:=Kq.add 149 ug
theorem Ut:ah Tryz.prog B Kr:=(Us ai).p pm (atO _ ao ao ao)
def OR:Env:=Kr.add 96 ku
theorem Uu:ah Tryz.prog B OR:=(Ut ai).p pm (awD _ ao)
def aeV:Env:=OR.add 45 s0
theorem at4:ah Tryz.prog B aeV:=(Uu ai).p pm (awJ _ ao ao)
def aeW:Env:=aeV.add 47 s3
theorem at5:ah Tryz.prog B aeW:=(at4 ai).p pm (awK _ ao ao)
def aeX:Env:=aeW.add 104 zS
theorem at6:ah Tryz.prog B aeX:=(at5 ai).p pm (at1 _ ao ao ao ao ao)
def aeY:Env:=aeX.add 50 An
theorem at7:ah Tryz.prog B aeY:=(at6 ai).p pm (ahR _ ao)
def aua:Env:=aeY.add 4 HZ
theorem aub:ah Tryz.prog B aua:=(at7 ai).p pm (Av _ ao ao ao ao ao ao ao ao ao)
theorem ve:l8 Tryz.prog B 4 HZ:=(aub ai).1 4 HZ rfl
end
end RV.Dr
