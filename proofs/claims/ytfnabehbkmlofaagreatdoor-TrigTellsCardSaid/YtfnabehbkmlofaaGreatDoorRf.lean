/- Lemmas for a claim: an abstract machine for the translated code, proved sound, and contracts of functions. By an AI agent. -/
import Derived.Test.YtfnabehbkmlofaaGreatDoorRe
import Derived.Test.YtfnabehbkmlofaaGreatDoorRd
import Derived.Test.YtfnabehbkmlofaaGreatDoorRc
set_option linter.all false
namespace RV.Dr
open Go RV
set_option linter.unusedSimpArgs false
set_option linter.unusedVariables false
set_option maxRecDepth 100000
set_option maxHeartbeats 4000000
def iQ (x:bQ):List D:=[.bool x.lo.neg,.ints .i64 (au x.lo.m),.int .i64 x.lo.e,.bool x.hi.neg,.ints .i64 (au x.hi.m),.int .i64 x.hi.e]
theorem aaL (x:bQ):hk (.agg (iQ x))=x:=dY x.lo x.hi
def sX:br where
 pre:=fun ds=>∃x y:bQ,ds=[a2 x,a2 y]
 res:=fun ds=>match ds with
  |[.agg xs,.agg aC]=> .fn 140 [] [.ptr xs,.ptr aC]
  |_=> .nilp
theorem Hi (Γ:Env) (ds:List D) (h:sX.pre ds):bK Γ afK afL ds fun d=>d=sX.res ds:=by
 obtain⟨x,y,rfl⟩:=h
 simp (maxSteps:=9^9) only[↓al,ak,simprocAttr,afK,afL,sX,a2]
def EF (x y:bQ) (k:Nat):a8:=cV (if k<2 then x.lo else x.hi) (if k % 2=0 then y.lo else y.hi)
def yI:k0 where
 pre:=fun ds=>∃x y:bQ,ds=[.ptr (iQ x),.ptr (iQ y)]∧k1 x∧k1 y
 seq:=fun ds k=>match ds with
  |[.ptr xs,.ptr aC]=>if k<4 then some [aV (EF (hk (.agg xs)) (hk (.agg aC)) k)]else none
  |_=>none
def uL (u:a8) (s:St):Prop:=s.af 5= .box 5 0∧∃e,s.aA 5=some ⟨false,e,.cells [.d (.bool u.neg),.d (.ints .i64 (au u.m)),.d (.int .i64 u.e)]⟩
theorem F4 (Γ:Env) (f141:Γ.fn 141=some re) (atp:Γ.mt 141=none) (ds:List D) (h:yI.pre ds) (M L:Nat):zO Γ (yI.seq ds) M L aco ds:=by
 obtain⟨x,y,rfl,aj,hy⟩:=h
 have eO:∀k,k<4→yI.seq [.ptr (iQ x),.ptr (iQ y)] k=some [aV (EF x y k)]:=fun k ad=>by
  simp only[yI,if_pos ad,aaL]
 have ahh:yI.seq [.ptr (iQ x),.ptr (iQ y)] 4=none:=rfl
 generalize yI.seq [.ptr (iQ x),.ptr (iQ y)]=E at eO ahh⊢
 have ov:(rO L [.ptr (iQ x),.ptr (iQ y)]).af 0= .dv L:=rfl
 have s1:(rO L [.ptr (iQ x),.ptr (iQ y)]).af 1= .d (.ptr [.bool x.lo.neg,.ints .i64 (au x.lo.m),.int .i64 x.lo.e,.bool x.hi.neg,.ints .i64 (au x.hi.m),.int .i64 x.hi.e]):=rfl
 have s2:(rO L [.ptr (iQ x),.ptr (iQ y)]).af 2= .d (.ptr [.bool y.lo.neg,.ints .i64 (au y.lo.m),.int .i64 y.lo.e,.bool y.hi.neg,.ints .i64 (au y.hi.m),.int .i64 y.hi.e]):=rfl
 unfold zO aco
 generalize rO L [.ptr (iQ x),.ptr (iQ y)]=s at ov s1 s2⊢
 obtain⟨X,jI⟩:∃X:List (List D),X=[[.bool x.lo.neg,.ints .i64 (au x.lo.m),.int .i64 x.lo.e],[.bool x.hi.neg,.ints .i64 (au x.hi.m),.int .i64 x.hi.e]]:=⟨_,rfl⟩
 obtain⟨Y,jk⟩:∃Y:List (List D),Y=[[.bool y.lo.neg,.ints .i64 (au y.lo.m),.int .i64 y.lo.e],[.bool y.hi.neg,.ints .i64 (au y.hi.m),.int .i64 y.hi.e]]:=⟨_,rfl⟩
 have azF:X.length=2:=by rw[jI];rfl
 have azG:Y.length=2:=by rw[jk];rfl
 refine sa (fun s=>s.af 0= .dv L∧s.af 2= .d (.ptr [.bool y.lo.neg,.ints .i64 (au y.lo.m),.int .i64 y.lo.e,.bool y.hi.neg,.ints .i64 (au y.hi.m),.int .i64 y.hi.e])∧s.af 12= .d (.recs 3 X)∧s.af 13= .d (.int .i64 2)∧s.af 14= .d (.int .i64 0)) rfl ?_ ?_
 ·simp (maxSteps:=9^9) only[↓al,ak,simprocAttr,ov,s1,s2,jI]
  first|done|rfl
 clear ov s1 s2
 rintro s ⟨h0,h2,cA,dn,eH⟩
 refine Cx ?_
 refine Mv (fun z s=>∃i:Nat,i≤2∧z=⟨2*i,true⟩∧s.af 0= .dv L∧s.af 2= .d (.ptr [.bool y.lo.neg,.ints .i64 (au y.lo.m),.int .i64 y.lo.e,.bool y.hi.neg,.ints .i64 (au y.hi.m),.int .i64 y.hi.e])∧s.af 12= .d (.recs 3 X)∧s.af 13= .d (.int .i64 2)∧s.af 14= .d (.int .i64 i)) (fun z _=>4 - z.k) ⟨0,by omega,rfl,h0,h2,cA,dn,eH⟩ ?_
 clear h0 h2 cA dn eH
 rintro z s ⟨i,hi,rfl,h0,h2,cA,dn,eH⟩
 refine sa (fun s=>s.af 15= .d (.bool (decide ((i:Int)<2)))∧s.af 0= .dv L∧s.af 2= .d (.ptr [.bool y.lo.neg,.ints .i64 (au y.lo.m),.int .i64 y.lo.e,.bool y.hi.neg,.ints .i64 (au y.hi.m),.int .i64 y.hi.e])∧s.af 12= .d (.recs 3 X)∧s.af 13= .d (.int .i64 2)∧s.af 14= .d (.int .i64 i)) rfl ?_ ?_
 ·simp (maxSteps:=9^9) only[↓al,ak,simprocAttr,h0,h2,cA,dn,eH]
 clear h0 h2 cA dn eH
 rintro s ⟨jf,h0,h2,cA,dn,eH⟩
 by_cases ci:(i:Int)<2
 rotate_left
 ·have VG:i=2:=by omega
  subst VG
  rw[decide_eq_false ci]at jf
  refine sa (fun _=>False) rfl ?_ (fun s h=>h.elim)
  simp (maxSteps:=9^9) only[↓al,ak,simprocAttr,jf]
  exact ahh
 rw[decide_eq_true ci]at jf
 have uE:i<2:=by omega
 refine sa (fun s=>s.af 0= .dv L∧s.af 2= .d (.ptr [.bool y.lo.neg,.ints .i64 (au y.lo.m),.int .i64 y.lo.e,.bool y.hi.neg,.ints .i64 (au y.hi.m),.int .i64 y.hi.e])∧s.af 12= .d (.recs 3 X)∧s.af 13= .d (.int .i64 2)∧s.af 14= .d (.int .i64 i)) rfl ?_ ?_
 ·simp (maxSteps:=9^9) only[↓al,ak,simprocAttr,jf,h0,h2,cA,dn,eH]
 clear h0 h2 cA dn eH jf
 rintro s ⟨h0,h2,cA,dn,eH⟩
 obtain⟨u,hu⟩:∃u:a8,u=if 2*i<2 then x.lo else x.hi:=⟨_,rfl⟩
 have avW:dj u:=by rw[hu];split;exact aj.1;exact aj.2
 have avX:X.getD i []=[.bool u.neg,.ints .i64 (au u.m),.int .i64 u.e]:=by
  rw[jI,hu]
  rcases (by omega:i=0∨i=1)with rfl|rfl<;>rfl
 have avY:i<X.length:=by omega
 have ayw:(i:Int)<X.length:=by omega
 show fS Γ E M L (.seq _ _) _ _ _
 refine zC (fun z s=>z=⟨2*i+2,true⟩∧s.af 0= .dv L∧s.af 2= .d (.ptr [.bool y.lo.neg,.ints .i64 (au y.lo.m),.int .i64 y.lo.e,.bool y.hi.neg,.ints .i64 (au y.hi.m),.int .i64 y.hi.e])∧s.af 12= .d (.recs 3 X)∧s.af 13= .d (.int .i64 2)∧s.af 14= .d (.int .i64 i)) ?_ ?_
 rotate_left
 ·clear h0 h2 cA dn eH
  rintro z s ⟨rfl,h0,h2,cA,dn,eH⟩
  refine k3 _ rfl ?_
  simp (maxSteps:=9^9) only[↓al,ak,simprocAttr,h0,h2,cA,dn,eH]
  exact⟨by simp only[aI];omega,⟨i+1,by omega,rfl,rfl⟩,by omega⟩
 refine Cx ?_
 refine sa (fun s=>s.af 5= .box 5 0∧s.aA 5=some ⟨false,false,.cells [.d (.bool u.neg),.d (.ints .i64 (au u.m)),.d (.int .i64 u.e)]⟩∧s.af 0= .dv L∧s.af 2= .d (.ptr [.bool y.lo.neg,.ints .i64 (au y.lo.m),.int .i64 y.lo.e,.bool y.hi.neg,.ints .i64 (au y.hi.m),.int .i64 y.hi.e])∧s.af 12= .d (.recs 3 X)∧s.af 13= .d (.int .i64 2)∧s.af 14= .d (.int .i64 i)) rfl ?_ ?_
 ·simp (maxSteps:=9^9) only[↓al,ak,simprocAttr,h0,h2,cA,dn,eH,ayw,avY,avX,Int.toNat_natCast,EN,Er]
  first|done|omega
 clear h0 h2 cA dn eH
 rintro s ⟨aG,bq,h0,h2,cA,dn,eH⟩
 refine sa (fun s=>s.af 22= .d (.recs 3 Y)∧s.af 23= .d (.int .i64 2)∧s.af 24= .d (.int .i64 0)∧s.af 5= .box 5 0∧s.aA 5=some ⟨false,false,.cells [.d (.bool u.neg),.d (.ints .i64 (au u.m)),.d (.int .i64 u.e)]⟩∧s.af 0= .dv L∧s.af 2= .d (.ptr [.bool y.lo.neg,.ints .i64 (au y.lo.m),.int .i64 y.lo.e,.bool y.hi.neg,.ints .i64 (au y.hi.m),.int .i64 y.hi.e])∧s.af 12= .d (.recs 3 X)∧s.af 13= .d (.int .i64 2)∧s.af 14= .d (.int .i64 i)) rfl ?_ ?_
 ·simp (maxSteps:=9^9) only[↓al,ak,simprocAttr,h0,h2,cA,dn,eH,aG,bq,jk]
  first|done|rfl
 clear h0 h2 cA dn eH aG bq
 rintro s ⟨jC,jD,hr,aG,bq,h0,h2,cA,dn,eH⟩
 refine Cx ?_
 refine Mv (fun z s=>∃j:Nat,j≤2∧z=⟨2*i+j,true⟩∧s.af 22= .d (.recs 3 Y)∧s.af 23= .d (.int .i64 2)∧s.af 24= .d (.int .i64 j)∧uL u s∧s.af 0= .dv L∧s.af 2= .d (.ptr [.bool y.lo.neg,.ints .i64 (au y.lo.m),.int .i64 y.lo.e,.bool y.hi.neg,.ints .i64 (au y.hi.m),.int .i64 y.hi.e])∧s.af 12= .d (.recs 3 X)∧s.af 13= .d (.int .i64 2)∧s.af 14= .d (.int .i64 i)) (fun z _=>4 - z.k) ⟨0,by omega,rfl,jC,jD,hr,⟨aG,_,bq⟩,h0,h2,cA,dn,eH⟩ ?_
 clear h0 h2 cA dn eH aG bq jC jD hr
 rintro z s ⟨j,aF,rfl,jC,jD,hr,aG,h0,h2,cA,dn,eH⟩
 refine sa (fun s=>s.af 25= .d (.bool (decide ((j:Int)<2)))∧s.af 22= .d (.recs 3 Y)∧s.af 23= .d (.int .i64 2)∧s.af 24= .d (.int .i64 j)∧uL u s∧s.af 0= .dv L∧s.af 2= .d (.ptr [.bool y.lo.neg,.ints .i64 (au y.lo.m),.int .i64 y.lo.e,.bool y.hi.neg,.ints .i64 (au y.hi.m),.int .i64 y.hi.e])∧s.af 12= .d (.recs 3 X)∧s.af 13= .d (.int .i64 2)∧s.af 14= .d (.int .i64 i)) rfl ?_ ?_
 ·simp (maxSteps:=9^9) only[↓al,ak,simprocAttr,h0,h2,cA,dn,eH,jC,jD,hr]
  exact aG
 clear h0 h2 cA dn eH jC jD hr aG
 rintro s ⟨uC,jC,jD,hr,aG,h0,h2,cA,dn,eH⟩
 by_cases LL:(j:Int)<2
 rotate_left
 ·have KM:j=2:=by omega
  subst KM
  rw[decide_eq_false LL]at uC
  refine sa (fun _=>False) rfl ?_ (fun s h=>h.elim)
  simp (maxSteps:=9^9) only[↓al,ak,simprocAttr,uC,h0,h2,cA,dn,eH]
 rw[decide_eq_true LL]at uC
 have azH:j<2:=by omega
 refine sa (fun s=>s.af 22= .d (.recs 3 Y)∧s.af 23= .d (.int .i64 2)∧s.af 24= .d (.int .i64 j)∧uL u s∧s.af 0= .dv L∧s.af 2= .d (.ptr [.bool y.lo.neg,.ints .i64 (au y.lo.m),.int .i64 y.lo.e,.bool y.hi.neg,.ints .i64 (au y.hi.m),.int .i64 y.hi.e])∧s.af 12= .d (.recs 3 X)∧s.af 13= .d (.int .i64 2)∧s.af 14= .d (.int .i64 i)) rfl ?_ ?_
 ·simp (maxSteps:=9^9) only[↓al,ak,simprocAttr,uC,h0,h2,cA,dn,eH,jC,jD,hr]
  exact aG
 clear h0 h2 cA dn eH jC jD hr aG uC
 rintro s ⟨jC,jD,hr,aG,h0,h2,cA,dn,eH⟩
 obtain⟨v,aB⟩:∃v:a8,v=if (2*i+j) % 2=0 then y.lo else y.hi:=⟨_,rfl⟩
 have avZ:dj v:=by rw[aB];split;exact hy.1;exact hy.2
 have av0:Y.getD j []=[.bool v.neg,.ints .i64 (au v.m),.int .i64 v.e]:=by
  rw[jk,aB]
  rcases (by omega:j=0∨j=1)with rfl|rfl
  ·rw[if_pos (by omega)];rfl
  ·rw[if_neg (by omega)];rfl
 have av1:j<Y.length:=by omega
 have ayx:(j:Int)<Y.length:=by omega
 have B7:E (2*i+j)=some [aV (cV u v)]:=by
  rw[eO _ (by omega),hu,aB]
  unfold EF
  have:(2*i+j<2)↔(2*i<2):=by omega
  simp only[this]
 refine zC (fun z s=>z=⟨2*i+j+1,true⟩∧s.af 22= .d (.recs 3 Y)∧s.af 23= .d (.int .i64 2)∧s.af 24= .d (.int .i64 j)∧uL u s∧s.af 0= .dv L∧s.af 2= .d (.ptr [.bool y.lo.neg,.ints .i64 (au y.lo.m),.int .i64 y.lo.e,.bool y.hi.neg,.ints .i64 (au y.hi.m),.int .i64 y.hi.e])∧s.af 12= .d (.recs 3 X)∧s.af 13= .d (.int .i64 2)∧s.af 14= .d (.int .i64 i)) ?_ ?_
 rotate_left
 ·clear h0 h2 cA dn eH jC jD hr aG
  rintro z s ⟨rfl,jC,jD,hr,aG,h0,h2,cA,dn,eH⟩
  refine k3 _ rfl ?_
  obtain⟨aG,dN,bq⟩:=aG
  simp (maxSteps:=9^9) only[↓al,ak,simprocAttr,h0,h2,cA,dn,eH,jC,jD,hr,aG,bq,uL]
  exact⟨by simp only[aI];omega,⟨j+1,by omega,rfl,rfl,_,rfl⟩,by omega⟩
 refine Cx ?_
 refine sa (fun s=>s.af 7= .box 7 0∧s.aA 7=some ⟨false,false,.cells [.d (.bool v.neg),.d (.ints .i64 (au v.m)),.d (.int .i64 v.e)]⟩∧s.af 22= .d (.recs 3 Y)∧s.af 23= .d (.int .i64 2)∧s.af 24= .d (.int .i64 j)∧uL u s∧s.af 0= .dv L∧s.af 2= .d (.ptr [.bool y.lo.neg,.ints .i64 (au y.lo.m),.int .i64 y.lo.e,.bool y.hi.neg,.ints .i64 (au y.hi.m),.int .i64 y.hi.e])∧s.af 12= .d (.recs 3 X)∧s.af 13= .d (.int .i64 2)∧s.af 14= .d (.int .i64 i)) rfl ?_ ?_
 ·obtain⟨aG,dN,bq⟩:=aG
  simp (maxSteps:=9^9) only[↓al,ak,simprocAttr,h0,h2,cA,dn,eH,jC,jD,hr,aG,bq,ayx,av1,av0,Int.toNat_natCast,EN,Er,uL]
  ((repeat' apply And.intro)<;>first|assumption|with_reducible rfl|omega|(simp only[aI];omega)|exact⟨_,rfl⟩|exact⟨_,_,_,rfl⟩|exact⟨_,_,_,_,_,_,rfl⟩)
 clear h0 h2 cA dn eH jC jD hr aG
 rintro s ⟨aS,b6,jC,jD,hr,aG,h0,h2,cA,dn,eH⟩
 have oy:re.own=false:=rfl
 have pm:re.pre [.agg [.bool u.neg,.ints .i64 (au u.m),.int .i64 u.e],.agg [.bool v.neg,.ints .i64 (au v.m),.int .i64 v.e]]:=⟨u,v,rfl,avW,avZ⟩
 have r2:re.res [.agg [.bool u.neg,.ints .i64 (au u.m),.int .i64 u.e],.agg [.bool v.neg,.ints .i64 (au v.m),.int .i64 v.e]]=aV (cV u v):=by simp only[re,ck]
 obtain⟨p,aQ⟩:∃p,p=cV u v:=⟨_,rfl⟩
 rw[←aQ]at r2 B7
 refine zC (fun z s=>(z=⟨2*i+j+1,true⟩∧s.af 33= .d (.bool false)∧s.af 22= .d (.recs 3 Y)∧s.af 23= .d (.int .i64 2)∧s.af 24= .d (.int .i64 j)∧uL u s∧s.af 0= .dv L∧s.af 2= .d (.ptr [.bool y.lo.neg,.ints .i64 (au y.lo.m),.int .i64 y.lo.e,.bool y.hi.neg,.ints .i64 (au y.hi.m),.int .i64 y.hi.e])∧s.af 12= .d (.recs 3 X)∧s.af 13= .d (.int .i64 2)∧s.af 14= .d (.int .i64 i))∨(z=⟨2*i+j,false⟩∧s.af 33= .d (.bool true))) ?_ ?_
 rotate_left
 ·clear h0 h2 cA dn eH jC jD hr aG aS b6
  rintro z s (⟨rfl,VH,jC,jD,hr,aG,h0,h2,cA,dn,eH⟩|⟨rfl,VH⟩)
  ·refine k3 _ rfl ?_
   obtain⟨aG,dN,bq⟩:=aG
   simp (maxSteps:=9^9) only[↓al,ak,simprocAttr,VH,h0,h2,cA,dn,eH,jC,jD,hr,aG,bq,uL]
   ((repeat' apply And.intro)<;>first|assumption|with_reducible rfl|omega|(simp only[aI];omega)|exact⟨_,rfl⟩|exact⟨_,_,_,rfl⟩|exact⟨_,_,_,_,_,_,rfl⟩)
  ·refine k3 _ rfl ?_
   simp (maxSteps:=9^9) only[↓al,ak,simprocAttr,VH]
 show hL Γ E M L _ _ _ _
 refine Ra 4 (fun s=>s.af 28= .dv L∧s.af 31= .agg [.d (.bool p.neg),.d (.ints .i64 (au p.m)),.d (.int .i64 p.e)]∧s.af 22= .d (.recs 3 Y)∧s.af 23= .d (.int .i64 2)∧s.af 24= .d (.int .i64 j)∧uL u s∧s.af 0= .dv L∧s.af 2= .d (.ptr [.bool y.lo.neg,.ints .i64 (au y.lo.m),.int .i64 y.lo.e,.bool y.hi.neg,.ints .i64 (au y.hi.m),.int .i64 y.hi.e])∧s.af 12= .d (.recs 3 X)∧s.af 13= .d (.int .i64 2)∧s.af 14= .d (.int .i64 i)) rfl ?_ ?_
 ·simp only[List.take_succ_cons,List.take_zero]
  obtain⟨aG,dN,bq⟩:=aG
  simp (maxSteps:=9^9) only[↓al,ak,simprocAttr,h0,h2,cA,dn,eH,jC,jD,hr,aG,bq,aS,b6,f141,atp,oy,pm,r2,aV,EN,Er,uL]
  ((repeat' apply And.intro)<;>first|assumption|with_reducible rfl|omega|(simp only[aI];omega)|exact⟨_,rfl⟩|exact⟨_,_,_,rfl⟩|exact⟨_,_,_,_,_,_,rfl⟩)
 clear h0 h2 cA dn eH jC jD hr aG aS b6
 rintro s ⟨Lf,av2,jC,jD,hr,aG,h0,h2,cA,dn,eH⟩
 show hL Γ E M L _ [⟨some 32,.hJ (.t 28) [.t 31],none⟩,⟨some 33,.un .not (.t 32),none⟩] _ _
 have ahi:cr s [.t 31]=[.agg [.d (.bool p.neg),.d (.ints .i64 (au p.m)),.d (.int .i64 p.e)]]:=by simp only[cr,List.map_cons,List.map_nil,St.aU,av2]
 refine QI (ds:=[aV p]) Lf (by rw[ahi];rfl) (by rw[ahi];rfl) rfl B7 (fun _=> ?_) ?_
 ·have iR:=Rb h0
  have bB:=yf h2
  have ahj:=yf cA
  have ahk:=yf dn
  have ahl:=yf eH
  have ahm:=yf jC
  have ahn:=yf jD
  have aho:=yf hr
  obtain⟨aG,dN,bq⟩:=aG
  have ou:=YA aG bq rfl
  have LK:=Zh bq rfl
  generalize s.still=ef at iR bB ahj ahk ahl ahm ahn aho ou LK⊢
  refine zv rfl ?_
  simp (maxSteps:=9^9) only[↓al,ak,simprocAttr,iR,bB,ahj,ahk,ahl,ahm,ahn,aho,ou,LK,Bool.not_true,uL]
  first|done|(refine .inl ⟨_,rfl⟩;done)|simp
 ·refine zv rfl ?_
  simp (maxSteps:=9^9) only[↓al,ak,simprocAttr,Bool.not_false]
  first|done|simp
def kH (x y:bQ):List a8:=[cV x.lo y.lo,cV x.lo y.hi,cV x.hi y.lo,cV x.hi y.hi]
def dp (x y:bQ):bQ:=⟨eD gR (cV x.lo y.lo) [cV x.lo y.hi,cV x.hi y.lo,cV x.hi y.hi],eD gS (cV x.lo y.lo) [cV x.lo y.hi,cV x.hi y.lo,cV x.hi y.hi]⟩
theorem alh (x y:bQ) {k:Nat} (ad:k<4):((kH x y).take k).map kk++[kk (EF x y k)]=((kH x y).take (k+1)).map kk:=by
 rcases (by omega:k=0∨k=1∨k=2∨k=3)with rfl|rfl|rfl|rfl<;>rfl
def DZ (x:a8):Prop:=x.win (-25000) 25000
theorem Jc {x y:a8} (aj:DZ x) (hy:DZ y):dj (cV x y):=uR aj hy
def HM (i:bQ):Prop:=DZ i.lo∧DZ i.hi
theorem E0 {x:a8} (h:DZ x):dj x:=win.up h (by omega) (by omega)
def uF:br where
 pre:=fun ds=>∃x y:bQ,ds=[a2 x,a2 y]∧HM x∧HM y
 res:=fun ds=>match ds with
  |[p,q]=>a2 (dp (hk p) (hk q))
  |_=> .nilp
def aer:Nat→Option k0:=fun f=>if f=140 then some yI else none
theorem Hj (Γ:Env) (f87:Γ.fn 87=some sX) (av3:Γ.mt 87=none) (f88:Γ.fn 88=some qm) (av4:Γ.mt 88=none) (f89:Γ.fn 89=some qn) (av5:Γ.mt 89=none) (ds:List D) (h:uF.pre ds):zN Γ aer agC agD ds fun d=>d=uF.res ds:=by
 obtain⟨x,y,rfl,⟨gb,g2⟩,⟨jY,pg⟩⟩:=h
 have bO:uF.res [a2 x,a2 y]=a2 (dp x y):=by simp only[uF,a2,aZ,dY]
 rw[bO]
 unfold zN agC
 refine qU (fun s=>s.af 2= .box 2 0∧s.aA 2=some ⟨false,false,.cells [.d (.bool x.lo.neg),.d (.ints .i64 (au x.lo.m)),.d (.int .i64 x.lo.e),.d (.bool x.hi.neg),.d (.ints .i64 (au x.hi.m)),.d (.int .i64 x.hi.e)]⟩∧s.af 3= .box 3 0∧s.aA 3=some ⟨false,false,.cells [.d (.bool y.lo.neg),.d (.ints .i64 (au y.lo.m)),.d (.int .i64 y.lo.e),.d (.bool y.hi.neg),.d (.ints .i64 (au y.hi.m)),.d (.int .i64 y.hi.e)]⟩∧s.af 4= .box 4 0∧∃bJ bu bs fo ff fg,s.aA 4=some ⟨false,false,.cells [.d bJ,.d bu,.d bs,.d fo,.d ff,.d fg]⟩) ?_ ?_
 ·show cb Γ _ _ _
  simp (maxSteps:=9^9) only[↓al,ak,simprocAttr,a2]
  exact⟨_,_,_,_,_,_,rfl⟩
 rintro s ⟨h2,aW,aq,a5,aK,bJ,bu,bs,fo,ff,fg,a9⟩
 refine qU (fun s=>s.af 5= .box 5 0∧s.aA 5=some ⟨false,false,.cells [.own 500005 0 0]⟩∧s.aA 500005=some ⟨false,false,.recs 3 []⟩∧s.af 2= .box 2 0∧s.aA 2=some ⟨false,false,.cells [.d (.bool x.lo.neg),.d (.ints .i64 (au x.lo.m)),.d (.int .i64 x.lo.e),.d (.bool x.hi.neg),.d (.ints .i64 (au x.hi.m)),.d (.int .i64 x.hi.e)]⟩∧s.af 3= .box 3 0∧s.aA 3=some ⟨false,false,.cells [.d (.bool y.lo.neg),.d (.ints .i64 (au y.lo.m)),.d (.int .i64 y.lo.e),.d (.bool y.hi.neg),.d (.ints .i64 (au y.hi.m)),.d (.int .i64 y.hi.e)]⟩∧s.af 4= .box 4 0∧∃bJ bu bs fo ff fg,s.aA 4=some ⟨false,false,.cells [.d bJ,.d bu,.d bs,.d fo,.d ff,.d fg]⟩) ?_ ?_
 ·simp only[iM]
  simp (maxSteps:=9^9) only[↓al,ak,simprocAttr,h2,aW,aq,a5,aK,a9]
  exact⟨_,_,_,_,_,_,rfl⟩
 clear h2 aW aq a5 aK a9
 rintro s ⟨aG,bq,uG,h2,aW,aq,a5,aK,bJ,bu,bs,fo,ff,fg,a9⟩
 obtain⟨rows,l2⟩:∃rows,rows=(kH x y).map kk:=⟨_,rfl⟩
 refine qU (fun s=>s.af 4= .box 4 0∧(∃bJ bu bs fo ff fg,s.aA 4=some ⟨false,false,.cells [.d bJ,.d bu,.d bs,.d fo,.d ff,.d fg]⟩)∧s.af 5= .box 5 0∧s.aA 5=some ⟨false,false,.cells [.d (.recs 3 rows)]⟩) ?_ ?_
 ·refine qU (fun s=>s.af 9= .d (.fn 140 [] [.ptr (iQ x),.ptr (iQ y)])∧s.af 5= .box 5 0∧s.aA 5=some ⟨false,false,.cells [.own 500005 0 0]⟩∧s.aA 500005=some ⟨false,false,.recs 3 []⟩∧s.af 4= .box 4 0∧∃bJ bu bs fo ff fg,s.aA 4=some ⟨false,false,.cells [.d bJ,.d bu,.d bs,.d fo,.d ff,.d fg]⟩) ?_ ?_
  ·show cb Γ _ _ _
   have Cg:sX.own=false:=rfl
   have fV:sX.pre [a2 x,a2 y]:=⟨x,y,rfl⟩
   have rc:sX.res [a2 x,a2 y]= .fn 140 [] [.ptr (iQ x),.ptr (iQ y)]:=rfl
   simp only[a2,aZ]at fV rc
   simp (maxSteps:=9^9) only[↓al,ak,simprocAttr,h2,aW,aq,a5,aK,a9,aG,bq,uG,f87,av3,Cg,fV,rc,iQ]
   exact⟨_,_,_,_,_,_,rfl⟩
  clear h2 aW aq a5 aK a9 aG bq uG
  rintro s ⟨bH,aG,bq,uG,aK,bJ,bu,bs,fo,ff,fg,a9⟩
  have jG:aer 140=some yI:=rfl
  have J0:∀k,yI.seq [.ptr (iQ x),.ptr (iQ y)] k=if k<4 then some [aV (EF x y k)]else none:=fun k=>by simp only[yI,aaL]
  simp only[iM,St.aU,bH,jG]
  refine⟨⟨x,y,rfl,⟨E0 gb,E0 g2⟩,⟨E0 jY,E0 pg⟩⟩,fun k s=>k≤4∧s.af 5= .box 5 0∧s.aA 5=some ⟨false,false,.cells [.own 500005 0 k]⟩∧s.aA 500005=some ⟨false,false,.recs 3 (((kH x y).take k).map kk)⟩∧s.af 4= .box 4 0∧∃bJ bu bs fo ff fg,s.aA 4=some ⟨false,false,.cells [.d bJ,.d bu,.d bs,.d fo,.d ff,.d fg]⟩,5,by omega,⟨by omega,?_,bq,uG,?_,_,_,_,_,_,_,a9⟩,?_,?_⟩
  ·simp only[St.only];rw[if_neg (by decide)];exact aG
  ·simp only[St.only];rw[if_neg (by decide)];exact aK
  ·clear bH aG bq uG aK a9
   rintro k xs s ad pj ⟨av6,aG,bq,uG,aK,bJ,bu,bs,fo,ff,fg,a9⟩
   rw[J0]at pj
   split at pj
   rotate_left
   ·cases pj
   rename_i atq
   simp only[Option.some.injEq]at pj
   subst pj
   refine⟨rfl,?_⟩
   obtain⟨p,aQ⟩:∃p,p=EF x y k:=⟨_,rfl⟩
   rw[←aQ]
   have lx:=alh x y atq
   rw[←aQ]at lx
   obtain⟨R,eC⟩:∃R,R=((kH x y).take k).map kk:=⟨_,rfl⟩
   have ahp:R.length=k:=by
    rw[eC,List.length_map,List.length_take,show (kH x y).length=4 from rfl];omega
   rw[←eC]at lx uG
   simp only[Fh]
   have PC:((s.put (some 10) (c3 (aV p))).af 10)= .agg [.d (.bool p.neg),.d (.ints .i64 (au p.m)),.d (.int .i64 p.e)]:=rfl
   have dN:(s.put (some 10) (c3 (aV p))).af 5= .box 5 0:=aG
   have cN:(s.put (some 10) (c3 (aV p))).af 4= .box 4 0:=aK
   have f5:(s.put (some 10) (c3 (aV p))).aA 5=some ⟨false,false,.cells [.own 500005 0 k]⟩:=bq
   have f50:(s.put (some 10) (c3 (aV p))).aA 500005=some ⟨false,false,.recs 3 R⟩:=uG
   have f4:(s.put (some 10) (c3 (aV p))).aA 4=some ⟨false,false,.cells [.d bJ,.d bu,.d bs,.d fo,.d ff,.d fg]⟩:=a9
   generalize s.put (some 10) (c3 (aV p))=t at PC dN cN f5 f50 f4⊢
   clear aG bq uG aK a9 s
   have ayy:Em [kk p]=true:=rfl
   simp only[kk]at ayy lx
   simp (maxSteps:=9^9) only[↓al,ak,simprocAttr,PC,dN,cN,f5,f50,f4,II,IJ,List.contains_cons,List.contains_nil,Nat.reduceBEq,Nat.reduceBeqDiff,Bool.or_false,Bool.false_eq_true]
   have aH:(R++[[D.bool p.neg,D.ints IntKind.i64 (au p.m),D.int IntKind.i64 p.e]]).length=k+1:=by rw[List.length_append,ahp];rfl
   rw[aH,lx]
   exact⟨ahp.symm,by simp only[b1];omega,⟨by omega,rfl,rfl,_,_,_,_,_,_,rfl⟩,by omega⟩
  ·rintro k s pj ⟨av6,aG,bq,uG,aK,bJ,bu,bs,fo,ff,fg,a9⟩
   rw[J0]at pj
   have ad:k=4:=by
    split at pj
    ·cases pj
    ·omega
   subst ad
   refine⟨some 500005,⟨_,uG,rfl⟩,?_⟩
   have aD:toD s (.own 500005 0 4)=some (.recs 3 rows):=by
    simp only[toD,uG,BC.part]
    rw[if_pos (by simp[kH])]
    rw[l2];rfl
   refine⟨?_,⟨bJ,bu,bs,fo,ff,fg,?_⟩,?_,?_⟩
   ·simp only[St.iI,aK,ag.iI];rw[if_neg (by decide)]
   ·simp only[St.iI,a9]
    rfl
   ·simp only[St.iI,aG,ag.iI];rw[if_neg (by decide)]
   ·simp only[St.iI,bq,Option.map_some,cm.gK,BC.gK,List.map_cons,List.map_nil,ag.iI,aD,c3]
    rfl
 ·rintro s ⟨aK,⟨bJ,bu,bs,fo,ff,fg,a9⟩,aG,bq⟩
  show cb Γ _ _ _
  have Qb:qm.own=false:=rfl
  have Wr:qn.own=false:=rfl
  have hW:∀z∈kH x y,dj z:=fun z bp=>by
   simp only[kH,List.mem_cons,List.not_mem_nil,or_false]at bp
   rcases bp with rfl|rfl|rfl|rfl
   ·exact Jc gb jY
   ·exact Jc gb pg
   ·exact Jc g2 jY
   ·exact Jc g2 pg
  have pi:qm.pre [.recs 3 rows,.fn 74 [] []]:=⟨cV x.lo y.lo,[cV x.lo y.hi,cV x.hi y.lo,cV x.hi y.hi],by rw[l2];rfl,hW,by simp⟩
  have pa:qn.pre [.recs 3 rows,.fn 74 [] []]:=⟨cV x.lo y.lo,[cV x.lo y.hi,cV x.hi y.lo,cV x.hi y.hi],by rw[l2];rfl,hW,by simp⟩
  obtain⟨m,hm⟩:∃m,m=dp x y:=⟨_,rfl⟩
  have az:qm.res [.recs 3 rows,.fn 74 [] []]=aV m.lo:=by
   simp only[qm,l2,Jb,kH,hm,dp]
  have ox:qn.res [.recs 3 rows,.fn 74 [] []]=aV m.hi:=by
   simp only[qn,l2,Jb,kH,hm,dp]
  rw[←hm]
  simp (maxSteps:=9^9) only[↓al,ak,simprocAttr,agD,a2,aV,aK,a9,aG,bq,f88,av4,f89,av5,Qb,Wr,pi,pa,az,ox]
def yJ:br where
 pre:=fun ds=>∃m:Nat,ds=[aZ m]∧(au m).length≤8000
 res:=fun ds=>match ds with
  |[.ints _ xs]=>aZ (a7 (val xs))
  |_=> .nilp
theorem Zu {R m k:Nat} (h1:R*R≤m) (h2:m<(R+2^(k+1))*(R+2^(k+1))):
 ((R+2^k)*(R+2^k)≤m→m<(R+2^k+2^k)*(R+2^k+2^k)):=fun _=>by
 rw[show R+2^k+2^k=R+2^(k+1)by rw[Nat.pow_succ];omega];exact h2
theorem apn {R m:Nat} (h:R*R≤m):2*a1 R≤a1 m+1:=by
 by_cases h0:R=0
 ·subst h0;rw[pC];omega
 ·have:=ako h0 h0
  have:=tm h
  omega
theorem aes (Γ:Env) (tW:Γ.has 136 hZ) (rh:Γ.has 112 fB) (BA:Γ.has 113 js) (C8:Γ.has 116 ma) (zP:Γ.has 114 fh) (ds:List D) (h:yJ.pre ds):bK Γ ac0 ac1 ds fun d=>d=yJ.res ds:=by
 obtain⟨m,rfl,aH⟩:=h
 have ie:hZ.pre [.ints .i64 (au m)]:=⟨m,rfl,by omega⟩
 have hl:hZ.res [.ints .i64 (au m)]= .int .i64 (a1 m):=by simp only[hZ,bT]
 have Ww:=x3 m
 obtain⟨K,b9⟩:∃K:Nat,(a1 m+1) / 2=K:=⟨_,rfl⟩
 have aO:((a1 m:Int)+1).tdiv 2=K:=by rw[Int.tdiv_eq_ediv_of_nonneg (by omega)];omega
 have cI:au 1=[1]:=by decide+kernel
 have bO:yJ.res [aZ m]=aZ (a7 m):=by simp only[yJ,bT,aZ]
 rw[bO]
 simp (maxSteps:=9^9) only[↓al,ak,simprocAttr,ac0,ac1]
 refine cB (fun s=>∃R:Nat,R*R≤m∧m<(R+1)*(R+1)∧(s.af 3= .d (.ints .i64 (au R))∨R=0∧s.af 3= .own 3 0 0∧∃z,s.aA 3=some ⟨z,false,.ints .i64 []⟩)) ?_ ?_
 ·simp (maxSteps:=9^9) only[↓al,ak,simprocAttr,tW,ie,hl,aO]
  repeat (refine And.intro (by first|omega|(simp only[aI];omega)|(simp only[aI]at*;omega)|(simp only[List.length_append,List.length_cons,List.length_nil,List.length_set,b1];omega)) ?_)
  refine eV (fun s=>∃(R:Nat) (k:Int),s.af 0= .d (.ints .i64 (au m))∧s.af 4= .d (.int .i64 k)∧-1≤k∧k≤K∧R*R≤m∧m<(R+2^(k+1).toNat)*(R+2^(k+1).toNat)∧(s.af 3= .d (.ints .i64 (au R))∨R=0∧s.af 3= .own 3 0 0∧∃z,s.aA 3=some ⟨z,false,.ints .i64 []⟩)) (fun s=>match s.af 4 with| .d (.int _ k)=>(k+1).toNat|_=>0) ?_ ?_
  ·refine⟨0,K,?_⟩
   simp (maxSteps:=9^9) only[↓al,ak,simprocAttr]
   refine⟨by omega,Int.le_refl _,Nat.zero_le _,?_,_,rfl⟩
   rw[←Nat.pow_add]
   exact Nat.lt_of_lt_of_le (kG m) (Nat.pow_le_pow_right (by decide) (by omega))
  ·rintro s ⟨R,k,h0,aK,ad,cE,eC,hm,aq⟩
   by_cases c:k≥0
   ·obtain⟨j,rfl⟩:∃j:Nat,k=j:=⟨k.toNat,by omega⟩
    have aN:((j:Int)+1).toNat=j+1:=by omega
    have aX:((j:Int) - 1+1).toNat=j:=by omega
    rw[aN]at hm
    obtain⟨T,cy⟩:∃T,T=R+2^j:=⟨_,rfl⟩
    have ajj:=apn eC
    have h2:a1 (2^j)=j+1:=by have:=pE (n:=1) (by decide) j;rw[Nat.one_mul]at this;rw[this,show a1 1=1 from rfl];omega
    have LO:a1 T≤K+2:=by
     have:=Cr R (2^j)
     rw[cy]
     omega
    have Wv:=gh T
    have LN:=gh R
    have aAo:=gh (2^j)
    have iA:fB.pre [.ints .i64 [1],.int .i64 j]:=⟨[1],j,rfl,by rw[←cI];exact c4 1,by decide,by omega⟩
    have ic:fB.res [.ints .i64 [1],.int .i64 j]= .ints .i64 (au (2^j)):=by simp only[fB,←cI,bT,Int.toNat_natCast,Nat.one_mul,aZ]
    have kB:∀xs,xs=au R→js.pre [.ints .i64 xs,.ints .i64 (au (2^j))]:=fun xs e=>by subst e;exact⟨_,_,rfl,c4 _,c4 _,by omega,by omega⟩
    have kC:∀xs,xs=au R→js.res [.ints .i64 xs,.ints .i64 (au (2^j))]= .ints .i64 (au T):=fun xs e=>by subst e;simp only[js,bT,aZ,cy]
    have azI:=Cs T T
    have azJ:=gh (T*T)
    have s9:ma.pre [.ints .i64 (au T),.ints .i64 (au T)]:=⟨_,_,rfl,c4 _,c4 _,by omega,by omega⟩
    have zl:ma.res [.ints .i64 (au T),.ints .i64 (au T)]= .ints .i64 (au (T*T)):=by simp only[ma,bT,aZ]
    have fp:fh.pre [.ints .i64 (au (T*T)),.ints .i64 (au m)]:=⟨_,_,rfl,⟨_,rfl⟩,⟨_,rfl⟩,by omega,by omega⟩
    rcases aq with aq|⟨DJ,aq,z,a5⟩
    ·have kB:=kB _ rfl
     have kC:=kC _ rfl
     by_cases uK:T*T≤m
     ·have ey:∃v:Int,v≤0∧fh.res [.ints .i64 (au (T*T)),.ints .i64 (au m)]= .int .i64 v:=by
       refine⟨if T*T<m then -1 else 0,by split<;>decide,?_⟩
       simp only[fh,bT]
       rw[if_neg (by omega:¬m<T*T)]
      obtain⟨v,aB,ey⟩:=ey
      simp (maxSteps:=9^9) only[↓al,ak,simprocAttr,h0,aK,aq,c,rh,iA,ic,BA,kB,kC,C8,s9,zl,zP,fp,ey,aB]
      exact⟨by simp only[aI];omega,⟨T,_,rfl,by omega,by omega,uK,by rw[aX,cy];exact Zu eC hm (cy▸uK),rfl⟩,by omega⟩
     ·have ey:∃v:Int,¬v≤0∧fh.res [.ints .i64 (au (T*T)),.ints .i64 (au m)]= .int .i64 v:=⟨1,by decide,by simp only[fh,bT];rw[if_neg (by omega),if_pos (by omega)]⟩
      obtain⟨v,aB,ey⟩:=ey
      simp (maxSteps:=9^9) only[↓al,ak,simprocAttr,h0,aK,aq,c,rh,iA,ic,BA,kB,kC,C8,s9,zl,zP,fp,ey,aB]
      exact⟨by simp only[aI];omega,⟨R,_,rfl,by omega,by omega,eC,by rw[aX,←cy];omega,rfl⟩,by omega⟩
    ·have kB:=kB [] (by rw[DJ,hv])
     have kC:=kC [] (by rw[DJ,hv])
     by_cases uK:T*T≤m
     ·have ey:∃v:Int,v≤0∧fh.res [.ints .i64 (au (T*T)),.ints .i64 (au m)]= .int .i64 v:=by
       refine⟨if T*T<m then -1 else 0,by split<;>decide,?_⟩
       simp only[fh,bT]
       rw[if_neg (by omega:¬m<T*T)]
      obtain⟨v,aB,ey⟩:=ey
      simp (maxSteps:=9^9) only[↓al,ak,simprocAttr,h0,aK,aq,a5,c,rh,iA,ic,BA,kB,kC,C8,s9,zl,zP,fp,ey,aB]
      exact⟨by simp only[aI];omega,⟨T,_,rfl,by omega,by omega,uK,by rw[aX,cy];exact Zu eC hm (cy▸uK),rfl⟩,by omega⟩
     ·have ey:∃v:Int,¬v≤0∧fh.res [.ints .i64 (au (T*T)),.ints .i64 (au m)]= .int .i64 v:=⟨1,by decide,by simp only[fh,bT];rw[if_neg (by omega),if_pos (by omega)]⟩
      obtain⟨v,aB,ey⟩:=ey
      simp (maxSteps:=9^9) only[↓al,ak,simprocAttr,h0,aK,aq,a5,c,rh,iA,ic,BA,kB,kC,C8,s9,zl,zP,fp,ey,aB]
      exact⟨by simp only[aI];omega,⟨R,_,rfl,by omega,by omega,eC,by rw[aX,←cy];omega,DJ,_,rfl⟩,by omega⟩
   ·simp (maxSteps:=9^9) only[↓al,ak,simprocAttr,h0,aK,c]
    rw[show k= -1 by omega]at hm
    exact⟨R,eC,hm,aq⟩
 ·rintro s ⟨R,h1,h2,aq⟩
  rw[alf h1 h2]
  rcases aq with aq|⟨rfl,aq,z,a5⟩
  ·simp (maxSteps:=9^9) only[↓al,ak,simprocAttr,aq]
  ·simp (maxSteps:=9^9) only[↓al,ak,simprocAttr,aq,a5]
   rw[hv]
def sY:br where
 pre:=fun ds=>∃(x:a8) (n:Int) (up:Bool),ds=[aV x,.int .i64 n,.bool up]∧dj x∧0≤n∧n≤100000
 res:=fun ds=>match ds with
  |[p,.int _ n,.bool up]=>aV (gM (fj p) n up)
  |_=> .nilp
theorem ahq (Γ:Env) (tW:Γ.has 136 hZ) (OG:Γ.has 144 jW) (BA:Γ.has 113 js) (BB:Γ.has 109 fu) (ds:List D) (h:sY.pre ds):bK Γ Pt Pu ds fun d=>d=sY.res ds:=by
 obtain⟨x,n,up,rfl,aj,eS,kT⟩:=h
 have ex:=mH aj
 have c7:=l1 aj
 have aA:=sg aj
 have ie:hZ.pre [.ints .i64 (au x.m)]:=⟨x.m,rfl,by omega⟩
 have hl:hZ.res [.ints .i64 (au x.m)]= .int .i64 (a1 x.m):=by simp only[hZ,bT]
 have cI:au 1=[1]:=by decide+kernel
 by_cases ad:(a1 x.m:Int) - n≤0
 ·have ar:gM x n up=x:=by unfold gM;rw[if_pos ad]
  simp (maxSteps:=9^9) only[↓al,ak,simprocAttr,Pt,Pu,sY,aV,ck,ar,tW,ie,hl,ad]
  first|done|(repeat (refine And.intro (by first|omega|(simp only[aI];omega)|(simp only[aI]at*;omega)|(simp only[List.length_append,List.length_cons,List.length_nil,List.length_set,b1];omega)) ?_);first|done|omega)
 ·obtain⟨k,qi⟩:∃k:Nat,(a1 x.m:Int) - n=k:=⟨((a1 x.m:Int) - n).toNat,by omega⟩
  have cE:¬(k:Int)≤0:=by omega
  obtain⟨M,cp⟩:∃M,M=x.m / 2^k:=⟨_,rfl⟩
  have aE:=Es x.m k
  rw[←cp]at aE
  have Qc:=gh M
  have iA:jW.pre [.ints .i64 (au x.m),.int .i64 k]:=⟨_,_,rfl,c4 _,by omega,by omega⟩
  have ic:jW.res [.ints .i64 (au x.m),.int .i64 k]= .ints .i64 (au M):=by simp only[jW,bT,Int.toNat_natCast,←cp,aZ]
  have avG:=Cr M 1
  have bM:a1 1=1:=rfl
  have avH:=gh (M+1)
  have kB:js.pre [.ints .i64 (au M),.ints .i64 [1]]:=⟨_,_,rfl,c4 _,by rw[←cI];exact c4 1,by omega,by decide⟩
  have kC:js.res [.ints .i64 (au M),.ints .i64 [1]]= .ints .i64 (au (M+1)):=by simp only[js,←cI,bT,aZ]
  have ar:gM x n up=mk x.neg (M+(if up=x.neg then 0 else 1)) (x.e+k):=by
   unfold gM
   rw[if_neg ad,qi,Int.toNat_natCast,←cp]
  have HN:∀q,q=M∨q=M+1→fu.pre [.bool x.neg,.ints .i64 (au q),.int .i64 (x.e+k)]:=fun q aO=>⟨_,q,_,rfl,by rcases aO with rfl|rfl<;>omega,by omega,by omega⟩
  have ajk:∀q,fu.res [.bool x.neg,.ints .i64 (au q),.int .i64 (x.e+k)]=aV (mk x.neg q (x.e+k)):=fun q=>by simp only[fu,bT]
  by_cases hu:up=x.neg
  ·have kr:(up !=x.neg)=false:=by rw[hu];simp
   rw[if_pos hu,Nat.add_zero]at ar
   have HN:=HN M (.inl rfl)
   simp (maxSteps:=9^9) only[↓al,ak,simprocAttr,Pt,Pu,sY,aV,ck,ar,tW,ie,hl,qi,cE,OG,iA,ic,kr,BB,HN,ajk]
   first|done|(simp only[aI];omega)
  ·have kr:(up !=x.neg)=true:=by simpa using hu
   rw[if_neg hu]at ar
   have HN:=HN (M+1) (.inr rfl)
   simp (maxSteps:=9^9) only[↓al,ak,simprocAttr,Pt,Pu,sY,aV,ck,ar,tW,ie,hl,qi,cE,OG,iA,ic,kr,BA,kB,kC,BB,HN,ajk]
   first|done|(simp only[aI];omega)
def Ad:br where
 pre:=fun ds=>∃x y:bQ,ds=[a2 x,a2 y]∧k1 x∧k1 y
 res:=fun ds=>match ds with
  |[p,q]=> .bool (EE (hk p) (hk q))
  |_=> .nilp
theorem av7 (Γ:Env) (vV:Γ.has 57 gC) (ds:List D) (h:Ad.pre ds):bK Γ Ve Vf ds fun d=>d=Ad.res ds:=by
 obtain⟨x,y,rfl,⟨gb,g2⟩,⟨jY,pg⟩⟩:=h
 by_cases c:e4 y.lo x.lo≤0
 ·have ar:EE x y=decide (e4 x.hi y.hi≤0):=by unfold EE;rw[decide_eq_true c,Bool.true_and]
  simp (maxSteps:=9^9) only[↓al,ak,simprocAttr,Ve,Vf,Ad,a2,dY,vV,gC,ck,aV,c,ar]
  exact⟨⟨y.lo,x.lo,rfl,jY,gb⟩,⟨x.hi,y.hi,rfl,g2,pg⟩⟩
 ·have ar:EE x y=false:=by unfold EE;rw[decide_eq_false c,Bool.false_and]
  simp (maxSteps:=9^9) only[↓al,ak,simprocAttr,Ve,Vf,Ad,a2,dY,vV,gC,ck,aV,c,ar]
  exact⟨y.lo,x.lo,rfl,jY,gb⟩
def kt:br where
 pre:=fun ds=>∃x:bQ,ds=[a2 x]
 res:=fun ds=>match ds with
  |[p]=>a2 (dG (hk p))
  |_=> .nilp
theorem ahr (Γ:Env) (PI:Γ.has 62 lE) (ds:List D) (h:kt.pre ds):bK Γ agb agc ds fun d=>d=kt.res ds:=by
 obtain⟨x,rfl⟩:=h
 simp (maxSteps:=9^9) only[↓al,ak,simprocAttr,agb,agc,kt,a2,dY,dG,PI,lE,ck,aV]
 exact⟨⟨x.hi,rfl⟩,⟨x.lo,rfl⟩⟩
def kW:br where
 pre:=fun ds=>∃x y:bQ,ds=[a2 x,a2 y]∧k1 x∧k1 y
 res:=fun ds=>match ds with
  |[p,q]=>a2 (ev (hk p) (hk q))
  |_=> .nilp
theorem ahs (Γ:Env) (Ae:Γ.has 56 gn) (ds:List D) (h:kW.pre ds):bK Γ agd age ds fun d=>d=kW.res ds:=by
 obtain⟨x,y,rfl,⟨gb,g2⟩,⟨jY,pg⟩⟩:=h
 simp (maxSteps:=9^9) only[↓al,ak,simprocAttr,agd,age,kW,a2,dY,ev,Ae,gn,ck,aV]
 exact⟨⟨x.lo,y.lo,rfl,gb,jY⟩,⟨x.hi,y.hi,rfl,g2,pg⟩⟩
def Af:br where
 pre:=fun ds=>∃(x:bQ) (k:Int),ds=[a2 x,.int .i64 k]∧k1 x∧-100000≤k∧k≤100000
 res:=fun ds=>match ds with
  |[p,.int _ k]=>a2 (g6 (hk p) k)
  |_=> .nilp
theorem aht (Γ:Env) (PJ:Γ.has 55 rQ) (ds:List D) (h:Af.pre ds):bK Γ afw afx ds fun d=>d=Af.res ds:=by
 obtain⟨x,k,rfl,⟨gb,g2⟩,h1,h2⟩:=h
 simp (maxSteps:=9^9) only[↓al,ak,simprocAttr,afw,afx,Af,a2,dY,g6,PJ,rQ,ck,aV]
 exact⟨⟨x.lo,k,rfl,gb,h1,h2⟩,⟨x.hi,k,rfl,g2,h1,h2⟩⟩
def uH:br where
 pre:=fun ds=>∃(x:bQ) (k:Int),ds=[a2 x,.int .i64 k]∧k1 x∧0≤k∧k≤100000
 res:=fun ds=>match ds with
  |[p,.int _ k]=>a2 (qb (hk p) k)
  |_=> .nilp
theorem ahu (Γ:Env) (PK:Γ.has 92 sY) (ds:List D) (h:uH.pre ds):bK Γ agf agh ds fun d=>d=uH.res ds:=by
 obtain⟨x,k,rfl,⟨gb,g2⟩,h1,h2⟩:=h
 simp (maxSteps:=9^9) only[↓al,ak,simprocAttr,agf,agh,uH,a2,dY,qb,PK,sY,ck,aV]
 exact⟨⟨x.lo,k,false,rfl,gb,h1,h2⟩,⟨x.hi,k,true,rfl,g2,h1,h2⟩⟩
def qo (rows:List (List D)) (i:Nat) (m M:a8) (s:St):Prop:=s.af 5= .d (.recs 3 rows)∧s.af 4= .box 4 0∧(∃bJ bu bs fo ff fg,s.aA 4=some ⟨false,false,.cells [bJ,bu,bs,fo,ff,fg]⟩)∧s.af 6= .box 6 0∧s.aA 6=some ⟨false,false,.cells [.d (.bool m.neg),.d (.ints .i64 (au m.m)),.d (.int .i64 m.e),.d (.bool M.neg),.d (.ints .i64 (au M.m)),.d (.int .i64 M.e)]⟩∧s.af 7= .d (.int .i64 ((i+1:Nat):Int))
def y3:br where
 pre:=fun ds=>∃x y:bQ,ds=[a2 x,a2 y]∧HM x∧HM y
 res:=fun ds=>match ds with
  |[p,q]=>a2 (dp (hk p) (hk q))
  |_=> .nilp
theorem ahv (Γ:Env) (Hk:Γ.has 58 jz) (vV:Γ.has 57 gC) (Ag:Γ.has 24 hB) (ds:List D) (h:y3.pre ds):bK Γ afy afz ds fun d=>d=y3.res ds:=by
 obtain⟨x,y,rfl,⟨gb,g2⟩,⟨jY,pg⟩⟩:=h
 have bO:y3.res [a2 x,a2 y]=a2 (dp x y):=by simp only[y3,a2,aZ,dY]
 rw[bO]
 obtain⟨l,aH⟩:∃l,l=[cV x.lo y.hi,cV x.hi y.lo,cV x.hi y.hi]:=⟨_,rfl⟩
 obtain⟨a,a6⟩:∃a,a=cV x.lo y.lo:=⟨_,rfl⟩
 have eP:dp x y=⟨eD gR a l,eD gS a l⟩:=by rw[aH,a6];rfl
 have hW:∀z∈a::l,dj z:=by
  intro z bp
  rw[a6,aH]at bp
  simp only[List.mem_cons,List.not_mem_nil,or_false]at bp
  rcases bp with rfl|rfl|rfl|rfl<;>exact Jc ‹_› ‹_›
 have s9:∀u v:a8,DZ u→DZ v→jz.pre [.agg [.bool u.neg,.ints .i64 (au u.m),.int .i64 u.e],.agg [.bool v.neg,.ints .i64 (au v.m),.int .i64 v.e]]:=fun u v h1 h2=>⟨u,v,rfl,E0 h1,E0 h2⟩
 have zl:∀u v:a8,jz.res [.agg [.bool u.neg,.ints .i64 (au u.m),.int .i64 u.e],.agg [.bool v.neg,.ints .i64 (au v.m),.int .i64 v.e]]= .agg [.bool (cV u v).neg,.ints .i64 (au (cV u v).m),.int .i64 (cV u v).e]:=fun u v=>by simp only[jz,ck,aV,aZ]
 have fp:∀y m:a8,dj y→dj m→gC.pre [.agg [.bool y.neg,.ints .i64 (au y.m),.int .i64 y.e],.agg [.bool m.neg,.ints .i64 (au m.m),.int .i64 m.e]]:=fun y m h1 h2=>⟨y,m,rfl,h1,h2⟩
 have ey:∀y m:a8,gC.res [.agg [.bool y.neg,.ints .i64 (au y.m),.int .i64 y.e],.agg [.bool m.neg,.ints .i64 (au m.m),.int .i64 m.e]]= .int .i64 (e4 y m):=fun y m=>by simp only[gC,ck]
 have ta:hB.pre [.agg [.bool a.neg,.ints .i64 (au a.m),.int .i64 a.e]]:=⟨a,rfl⟩
 have r3:hB.res [.agg [.bool a.neg,.ints .i64 (au a.m),.int .i64 a.e]]= .agg [.bool a.neg,.ints .i64 (au a.m),.int .i64 a.e,.bool a.neg,.ints .i64 (au a.m),.int .i64 a.e]:=by simp only[hB,ck,a2,tx,aZ]
 obtain⟨rows,l2⟩:∃rows,rows=(a::l).map kk:=⟨_,rfl⟩
 have hlen:rows.length=l.length+1:=by rw[l2,List.length_map,List.length_cons]
 have afo:l.length=3:=by rw[aH];rfl
 have B6:∀(i:Nat) (hi:i<l.length+1),rows.getD i []=[.bool ((a::l)[i]'(by simpa using hi)).neg,.ints .i64 (au ((a::l)[i]'(by simpa using hi)).m),.int .i64 ((a::l)[i]'(by simpa using hi)).e]:=fun i hi=>by
  rw[List.getD_eq_getElem?_getD,List.getElem?_eq_getElem (by omega),Option.getD_some]
  simp only[l2,List.getElem_map,kk]
 rw[eP]
 rw[gx]
 unfold afy afz
 have Hg:=hW a (by simp)
 have h0:=B6 0 (by omega)
 simp only[List.getElem_cons_zero]at h0
 refine cB (fun s=>s.af 4= .box 4 0∧(∃bJ bu bs fo ff fg,s.aA 4=some ⟨false,false,.cells [bJ,bu,bs,fo,ff,fg]⟩)∧s.af 2= .box 2 0∧s.aA 2=some ⟨false,false,.cells [.d (.bool x.lo.neg),.d (.ints .i64 (au x.lo.m)),.d (.int .i64 x.lo.e),.d (.bool x.hi.neg),.d (.ints .i64 (au x.hi.m)),.d (.int .i64 x.hi.e)]⟩∧s.af 3= .box 3 0∧s.aA 3=some ⟨false,false,.cells [.d (.bool y.lo.neg),.d (.ints .i64 (au y.lo.m)),.d (.int .i64 y.lo.e),.d (.bool y.hi.neg),.d (.ints .i64 (au y.hi.m)),.d (.int .i64 y.hi.e)]⟩) ?_ ?_
 ·simp (maxSteps:=9^9) only[↓al,ak,simprocAttr,a2]
  exact⟨_,_,_,_,_,_,rfl⟩
 rintro s ⟨aK,⟨bJ,bu,bs,fo,ff,fg,a9⟩,h2,aW,aq,a5⟩
 refine cB (fun s=>s.af 4= .box 4 0∧(∃bJ bu bs fo ff fg,s.aA 4=some ⟨false,false,.cells [bJ,bu,bs,fo,ff,fg]⟩)∧s.af 5= .d (.recs 3 rows)) ?_ ?_
 ·have p1:=s9 _ _ gb jY
  have cq:=s9 _ _ gb pg
  have fK:=s9 _ _ g2 jY
  have Av:=s9 _ _ g2 pg
  simp (maxSteps:=9^9) only[↓al,ak,simprocAttr,aK,a9,h2,aW,aq,a5,Hk,p1,cq,fK,Av,zl]
  refine⟨⟨_,_,_,_,_,_,rfl⟩,?_⟩
  rw[l2,a6,aH]
  rfl
 clear aK a9 h2 aW aq a5
 rintro s ⟨aK,⟨bJ,bu,bs,fo,ff,fg,a9⟩,aG⟩
 have hn:(0:Int)<rows.length:=by omega
 have av8:0<rows.length:=by omega
 have At:∀{m M:a8} {i:Nat} {s:St},qo rows i m M s↔qo rows i m M s:=Iff.rfl
 have bR:((1:Int)<rows.length)=True:=by simp only[eq_iff_iff,iff_true];omega
 refine cB (fun s=>s.af 5= .d (.recs 3 rows)∧s.af 4= .box 4 0∧(∃bJ bu bs fo ff fg,s.aA 4=some ⟨false,false,.cells [bJ,bu,bs,fo,ff,fg]⟩)∧s.af 6= .box 6 0∧s.aA 6=some ⟨false,false,.cells [.d (.bool a.neg),.d (.ints .i64 (au a.m)),.d (.int .i64 a.e),.d (.bool a.neg),.d (.ints .i64 (au a.m)),.d (.int .i64 a.e)]⟩) ?_ ?_
 ·simp (maxSteps:=9^9) only[↓al,ak,simprocAttr,aK,a9,aG,h0,hn,av8,Ag,ta,r3]
  exact⟨_,_,_,_,_,_,rfl⟩
 clear aK a9 aG
 rintro s ⟨aG,aK,⟨bJ,bu,bs,fo,ff,fg,a9⟩,aM,aY⟩
 refine cB (fun s=>s.af 4= .box 4 0∧(∃bJ bu bs fo ff fg,s.aA 4=some ⟨false,false,.cells [bJ,bu,bs,fo,ff,fg]⟩)∧s.af 6= .box 6 0∧s.aA 6=some ⟨false,false,.cells [.d (.bool (eD gR a l).neg),.d (.ints .i64 (au (eD gR a l).m)),.d (.int .i64 (eD gR a l).e),.d (.bool (eD gS a l).neg),.d (.ints .i64 (au (eD gS a l).m)),.d (.int .i64 (eD gS a l).e)]⟩) ?_ ?_
 ·simp (maxSteps:=9^9) only[↓al,ak,simprocAttr,aK,a9,aG,aM,aY]
  refine eV (fun s=>∃(i:Nat) (m M:a8),qo rows i m M s∧i≤l.length∧dj m∧dj M∧eD gR m (l.drop i)=eD gR a l∧eD gS M (l.drop i)=eD gS a l)
   (fun s=>match s.af 7 with| .d (.int _ n)=>rows.length - n.toNat|_=>0) ?_ ?_
  ·refine⟨0,a,a,?_,Nat.zero_le _,Hg,Hg,rfl,rfl⟩
   unfold qo
   simp (maxSteps:=9^9) only[↓al,ak,simprocAttr,aK,a9,aG,aM,aY,Nat.zero_add]
   ((repeat' apply And.intro)<;>first|assumption|with_reducible rfl|omega|(simp only[aI];omega)|exact⟨_,rfl⟩|exact⟨_,_,_,rfl⟩|exact⟨_,_,_,_,_,_,rfl⟩)
  ·clear aK a9 aG aM aY
   rintro s ⟨i,m,M,⟨aG,aK,⟨bJ,bu,bs,fo,ff,fg,a9⟩,aM,aY,aS⟩,hi,hm,cp,hf,bb⟩
   have qG:=aS
   by_cases ci:((i+1:Nat):Int)<rows.length
   ·have uE:i<l.length:=by omega
    have s8:i+1<rows.length:=by omega
    have sW:=B6 (i+1) (by omega)
    obtain⟨z,bp⟩:∃z,z=l[i]:=⟨_,rfl⟩
    have av9:(a::l)[i+1]'(by simpa using uE)=z:=by rw[bp];rfl
    rw[av9]at sW
    have ahw:dj z:=hW z (by rw[bp];exact List.mem_cons_of_mem _ (List.getElem_mem uE))
    rw[Re uE,←bp]at hf bb
    have p1:=fp z m ahw hm
    have cq:=fp z M ahw cp
    have aN:((i+1:Nat):Int).toNat=i+1:=Int.toNat_natCast _
    obtain⟨eg,mD⟩:∃eg,eg=(if gR z m=true then z else m):=⟨_,rfl⟩
    obtain⟨lQ,sU⟩:∃lQ,lQ=(if gS z M=true then z else M):=⟨_,rfl⟩
    have cf:dj eg:=by rw[mD];split<;>assumption
    have cP:dj lQ:=by rw[sU];split<;>assumption
    rw[←mD]at hf
    rw[←sU]at bb
    refine cB (qo rows i m M) ?_ ?_
    ·unfold qo
     simp (maxSteps:=60000) only[↓al,ak,↓reduceIte,reduceCtorEq,Nat.reduceEqDiff,Nat.reduceLeDiff,Nat.reduceSub,Nat.reduceAdd,Int.reduceToNat,Nat.reducePow,Int.reducePow,Int.reduceLE,Int.reduceLT,IntKind.bits,aK,a9,aG,aM,aY,aS,ci,s8]
     ((repeat' apply And.intro)<;>first|assumption|with_reducible rfl|omega|(simp only[aI];omega)|exact⟨_,rfl⟩|exact⟨_,_,_,rfl⟩|exact⟨_,_,_,_,_,_,rfl⟩)
    clear aK a9 aG aM aY aS
    rintro s ⟨aG,aK,⟨bJ,bu,bs,fo,ff,fg,a9⟩,aM,aY,aS⟩
    refine cB (qo rows i eg lQ) ?_ ?_
    ·rw[ka]
     refine cB (qo rows i eg M) ?_ ?_
     ·refine cB (fun s=>s.af 46= .d (.bool (gR z m))∧qo rows i m M s) ?_ ?_
      ·unfold qo
       simp (maxSteps:=60000) only[↓al,ak,↓reduceIte,reduceCtorEq,Nat.reduceEqDiff,Nat.reduceLeDiff,Nat.reduceSub,Nat.reduceAdd,Int.reduceToNat,Nat.reducePow,Int.reducePow,Int.reduceLE,Int.reduceLT,IntKind.bits,aK,a9,aG,aM,aY,aS,s8,sW,Int.toNat_natCast,vV,p1,ey,gR]
       ((repeat' apply And.intro)<;>first|assumption|with_reducible rfl|omega|(simp only[aI];omega)|exact⟨_,rfl⟩|exact⟨_,_,_,rfl⟩|exact⟨_,_,_,_,_,_,rfl⟩)
      clear aK a9 aG aM aY aS
      rintro s ⟨PL,aG,aK,⟨bJ,bu,bs,fo,ff,fg,a9⟩,aM,aY,aS⟩
      unfold qo
      cases aw:gR z m with
      |true=>
       rw[aw,if_pos rfl]at mD
       rw[aw]at PL
       subst mD
       simp (maxSteps:=60000) only[↓al,ak,↓reduceIte,reduceCtorEq,Nat.reduceEqDiff,Nat.reduceLeDiff,Nat.reduceSub,Nat.reduceAdd,Int.reduceToNat,Nat.reducePow,Int.reducePow,Int.reduceLE,Int.reduceLT,IntKind.bits,PL,aK,a9,aG,aM,aY,aS,s8,sW,Int.toNat_natCast]
       ((repeat' apply And.intro)<;>first|assumption|with_reducible rfl|omega|(simp only[aI];omega)|exact⟨_,rfl⟩|exact⟨_,_,_,rfl⟩|exact⟨_,_,_,_,_,_,rfl⟩)
      |false=>
       rw[aw,if_neg (by decide)]at mD
       rw[aw]at PL
       subst mD
       simp (maxSteps:=60000) only[↓al,ak,↓reduceIte,reduceCtorEq,Nat.reduceEqDiff,Nat.reduceLeDiff,Nat.reduceSub,Nat.reduceAdd,Int.reduceToNat,Nat.reducePow,Int.reducePow,Int.reduceLE,Int.reduceLT,IntKind.bits,PL,aK,a9,aG,aM,aY,aS]
       ((repeat' apply And.intro)<;>first|assumption|with_reducible rfl|omega|(simp only[aI];omega)|exact⟨_,rfl⟩|exact⟨_,_,_,rfl⟩|exact⟨_,_,_,_,_,_,rfl⟩)
     clear aK a9 aG aM aY aS
     rintro s ⟨aG,aK,⟨bJ,bu,bs,fo,ff,fg,a9⟩,aM,aY,aS⟩
     refine cB (fun s=>s.af 59= .d (.bool (gS z M))∧qo rows i eg M s) ?_ ?_
     ·unfold qo
      simp (maxSteps:=60000) only[↓al,ak,↓reduceIte,reduceCtorEq,Nat.reduceEqDiff,Nat.reduceLeDiff,Nat.reduceSub,Nat.reduceAdd,Int.reduceToNat,Nat.reducePow,Int.reducePow,Int.reduceLE,Int.reduceLT,IntKind.bits,aK,a9,aG,aM,aY,aS,s8,sW,Int.toNat_natCast,vV,cq,ey,gS]
      ((repeat' apply And.intro)<;>first|assumption|with_reducible rfl|omega|(simp only[aI];omega)|exact⟨_,rfl⟩|exact⟨_,_,_,rfl⟩|exact⟨_,_,_,_,_,_,rfl⟩)
     clear aK a9 aG aM aY aS
     rintro s ⟨PN,aG,aK,⟨bJ,bu,bs,fo,ff,fg,a9⟩,aM,aY,aS⟩
     unfold qo
     cases aw:gS z M with
     |true=>
      rw[aw,if_pos rfl]at sU
      rw[aw]at PN
      subst sU
      simp (maxSteps:=60000) only[↓al,ak,↓reduceIte,reduceCtorEq,Nat.reduceEqDiff,Nat.reduceLeDiff,Nat.reduceSub,Nat.reduceAdd,Int.reduceToNat,Nat.reducePow,Int.reducePow,Int.reduceLE,Int.reduceLT,IntKind.bits,PN,aK,a9,aG,aM,aY,aS,s8,sW,Int.toNat_natCast]
      ((repeat' apply And.intro)<;>first|assumption|with_reducible rfl|omega|(simp only[aI];omega)|exact⟨_,rfl⟩|exact⟨_,_,_,rfl⟩|exact⟨_,_,_,_,_,_,rfl⟩)
     |false=>
      rw[aw,if_neg (by decide)]at sU
      rw[aw]at PN
      subst sU
      simp (maxSteps:=60000) only[↓al,ak,↓reduceIte,reduceCtorEq,Nat.reduceEqDiff,Nat.reduceLeDiff,Nat.reduceSub,Nat.reduceAdd,Int.reduceToNat,Nat.reducePow,Int.reducePow,Int.reduceLE,Int.reduceLT,IntKind.bits,PN,aK,a9,aG,aM,aY,aS]
      ((repeat' apply And.intro)<;>first|assumption|with_reducible rfl|omega|(simp only[aI];omega)|exact⟨_,rfl⟩|exact⟨_,_,_,rfl⟩|exact⟨_,_,_,_,_,_,rfl⟩)
    clear aK a9 aG aM aY aS
    rintro s ⟨aG,aK,⟨bJ,bu,bs,fo,ff,fg,a9⟩,aM,aY,aS⟩
    unfold qo
    simp (maxSteps:=60000) only[↓al,ak,↓reduceIte,reduceCtorEq,Nat.reduceEqDiff,Nat.reduceLeDiff,Nat.reduceSub,Nat.reduceAdd,Int.reduceToNat,Nat.reducePow,Int.reducePow,Int.reduceLE,Int.reduceLT,IntKind.bits,aK,a9,aG,aM,aY,aS]
    refine⟨by simp only[aI];omega,⟨i+1,eg,lQ,⟨⟨_,_,_,_,_,_,rfl⟩,rfl,by omega⟩,by omega,cf,cP,hf,bb⟩,?_⟩
    rw[qG]
    show rows.length - _<rows.length - _
    omega
   ·simp (maxSteps:=9^9) only[↓al,ak,simprocAttr,aK,a9,aG,aM,aY,aS,ci]
    have hi':l.drop i=[]:=List.drop_of_length_le (by omega)
    rw[hi']at hf bb
    rw[←hf,←bb]
    exact⟨⟨_,_,_,_,_,_,rfl⟩,rfl⟩
 clear aK a9 aG aM aY
 rintro s ⟨aK,⟨bJ,bu,bs,fo,ff,fg,a9⟩,aM,aY⟩
 simp (maxSteps:=9^9) only[↓al,ak,simprocAttr,aK,a9,aM,aY,a2,aZ]
theorem arj (neg:Bool) (m:Nat) (e:Int):mk neg (2*m) (e - 1)=mk neg m e:=by
 unfold mk
 by_cases h:m=0
 ·rw[if_pos h,if_pos (by omega)]
 ·have:=QU h 1
  rw[if_neg h,if_neg (by omega),show (2:Nat)*m=2^1*m by omega,this,Nat.pow_add,Nat.mul_div_mul_left _ _ (by decide:0<2^1)]
  congr 1
  omega
def Ah:br where
 pre:=fun ds=>∃(x:a8) (n:Int) (up:Bool),ds=[aV x,.int .i64 n,.bool up]∧dj x∧0≤n∧n≤1000
 res:=fun ds=>match ds with
  |[p,.int _ n,.bool up]=>aV (eA (fj p) n up)
  |_=> .nilp
theorem ahx (Γ:Env) (tW:Γ.has 136 hZ) (rh:Γ.has 112 fB) (aet:Γ.has 137 yJ) (C8:Γ.has 116 ma) (ahy:Γ.has 83 uy) (BA:Γ.has 113 js) (BB:Γ.has 109 fu) (PK:Γ.has 92 sY) (ds:List D) (h:Ah.pre ds):bK Γ Vm Vn ds fun d=>d=Ah.res ds:=by
 obtain⟨x,n,up,rfl,aj,eS,kT⟩:=h
 have ex:=mH aj
 have c7:=l1 aj
 have aA:=sg aj
 have lN:au 0=[]:=hv
 by_cases h0:x.m=0
 ·have ar:eA x n up=x:=by
   unfold eA
   rw[h0,Nat.zero_mul,Cu]
   obtain⟨aN,aX⟩:=aj.1.1 h0
   have:mk false 0 ((x.e - gI x n) / 2 - 1)=x:=by
    unfold mk
    rw[if_pos rfl]
    cases x;simp_all
   rw[this]
   unfold gM
   rw[if_pos (by rw[h0,pC];omega)]
  simp (maxSteps:=9^9) only[↓al,ak,simprocAttr,Vm,Vn,Ah,aV,ck,ar,KS h0]
 ·have hW:=Zt aj eS kT
  have ux:=Ia (x:=x) eS
  have DH:=Ij x n
  obtain⟨jK,VA⟩:∃jK,jK=max (2*n+4 - (a1 x.m:Int)) 0:=⟨_,rfl⟩
  have B2:(if (0:Int)>2*n+4 - a1 x.m then 0 else 2*n+4 - (a1 x.m:Int))=jK:=by split<;>omega
  have b9:gI x n=jK+(x.e - jK) % 2:=by unfold gI;rw[←VA]
  obtain⟨k,ad⟩:∃k:Nat,gI x n=k:=⟨(gI x n).toNat,by omega⟩
  obtain⟨M,cp⟩:∃M,M=x.m*2^k:=⟨_,rfl⟩
  obtain⟨q,aO⟩:∃q,q=(x.e - k) / 2:=⟨_,rfl⟩
  rw[ad]at DH ux hW
  rw[Int.toNat_natCast,←cp]at hW
  rw[←aO]at DH hW
  have K6:(x.e - (k:Int)).tdiv 2=q:=by rw[DH];exact Int.mul_tdiv_cancel_left _ (by decide)
  have ar:eA x n up=gM (mk false (cU M) (q - 1)) n up:=by unfold eA;rw[ad,Int.toNat_natCast,←cp,←aO]
  have ayv:a1 M≤a1 x.m+k:=by rw[cp,pE h0];omega
  have Qc:=gh M
  have ajj:=RB M
  have LN:=gh (a7 M)
  have LO:=Mw M
  have Wv:=gh (cU M)
  have avM:=Cs (a7 M) (a7 M)
  have avN:=gh (a7 M*a7 M)
  have cI:au 1=[1]:=by decide+kernel
  have ie:hZ.pre [.ints .i64 (au x.m)]:=⟨x.m,rfl,by omega⟩
  have hl:hZ.res [.ints .i64 (au x.m)]= .int .i64 (a1 x.m):=by simp only[hZ,bT]
  have K7:fB.pre [.ints .i64 (au x.m),.int .i64 k]:=⟨_,_,rfl,c4 _,by omega,by omega⟩
  have K8:fB.res [.ints .i64 (au x.m),.int .i64 k]= .ints .i64 (au M):=by simp only[fB,bT,Int.toNat_natCast,←cp,aZ]
  have OD:fB.pre [.ints .i64 (au (a7 M)),.int .i64 1]:=⟨_,_,rfl,c4 _,by omega,by omega⟩
  have OE:fB.res [.ints .i64 (au (a7 M)),.int .i64 1]= .ints .i64 (au (2*a7 M)):=by
   simp only[fB,bT,aZ]
   rw[show a7 M*2^(1:Int).toNat=2*a7 M by rw[show (1:Int).toNat=1 from rfl];omega]
  have K9:yJ.pre [.ints .i64 (au M)]:=⟨M,rfl,by omega⟩
  have La:yJ.res [.ints .i64 (au M)]= .ints .i64 (au (a7 M)):=by simp only[yJ,bT,aZ]
  have Lb:ma.pre [.ints .i64 (au (a7 M)),.ints .i64 (au (a7 M))]:=⟨_,_,rfl,c4 _,c4 _,by omega,by omega⟩
  have Lc:ma.res [.ints .i64 (au (a7 M)),.ints .i64 (au (a7 M))]= .ints .i64 (au (a7 M*a7 M)):=by simp only[ma,bT,aZ]
  have ahz:uy.pre [.ints .i64 (au (a7 M*a7 M)),.ints .i64 (au M)]:=⟨_,_,rfl,by omega⟩
  have PH:sY.pre [.agg [.bool (mk false (cU M) (q - 1)).neg,.ints .i64 (au (mk false (cU M) (q - 1)).m),.int .i64 (mk false (cU M) (q - 1)).e],.int .i64 n,.bool up]:=⟨_,_,_,rfl,hW,eS,by omega⟩
  have PO:sY.res [.agg [.bool (mk false (cU M) (q - 1)).neg,.ints .i64 (au (mk false (cU M) (q - 1)).m),.int .i64 (mk false (cU M) (q - 1)).e],.int .i64 n,.bool up]=aV (eA x n up):=by rw[ar];simp only[sY,ck]
  rw[gx]
  unfold Vm Vn
  refine cB (fun s=>s.af 1= .d (.int .i64 n)∧s.af 2= .d (.bool up)∧s.af 3= .box 3 0∧s.aA 3=some ⟨false,false,.cells [.d (.bool x.neg),.d (.ints .i64 (au x.m)),.d (.int .i64 x.e)]⟩∧s.af 6= .box 6 0∧(∃bJ bu bs,s.aA 6=some ⟨false,false,.cells [bJ,bu,bs]⟩)) ?_ ?_
  ·simp (maxSteps:=9^9) only[↓al,ak,simprocAttr,aV]
   exact⟨_,_,_,rfl⟩
  rintro s ⟨h1,h2,aq,a5,aM,bJ,bu,bs,aY⟩
  refine cB (fun s=>s.af 1= .d (.int .i64 n)∧s.af 2= .d (.bool up)∧s.af 3= .box 3 0∧s.aA 3=some ⟨false,false,.cells [.d (.bool x.neg),.d (.ints .i64 (au x.m)),.d (.int .i64 x.e)]⟩∧s.af 6= .box 6 0∧(∃bJ bu bs,s.aA 6=some ⟨false,false,.cells [bJ,bu,bs]⟩)) ?_ ?_
  ·simp (maxSteps:=9^9) only[↓al,ak,simprocAttr,h1,h2,aq,a5,aM,aY,B0 h0]
   exact⟨_,_,_,rfl⟩
  clear h1 h2 aq a5 aM aY
  rintro s ⟨h1,h2,aq,a5,aM,bJ,bu,bs,aY⟩
  refine cB (fun s=>s.af 7= .d (.int .i64 jK)∧s.af 1= .d (.int .i64 n)∧s.af 2= .d (.bool up)∧s.af 3= .box 3 0∧s.aA 3=some ⟨false,false,.cells [.d (.bool x.neg),.d (.ints .i64 (au x.m)),.d (.int .i64 x.e)]⟩∧s.af 6= .box 6 0∧(∃bJ bu bs,s.aA 6=some ⟨false,false,.cells [bJ,bu,bs]⟩)) ?_ ?_
  ·simp (maxSteps:=9^9) only[↓al,ak,simprocAttr,h1,h2,aq,a5,aM,aY,tW,ie,hl,B2]
   ((repeat' apply And.intro)<;>first|assumption|with_reducible rfl|omega|(simp only[aI];omega)|exact⟨_,rfl⟩|exact⟨_,_,_,rfl⟩|exact⟨_,_,_,_,_,_,rfl⟩)
  clear h1 h2 aq a5 aM aY
  rintro s ⟨aS,h1,h2,aq,a5,aM,bJ,bu,bs,aY⟩
  refine cB (fun s=>s.af 7= .d (.int .i64 k)∧s.af 1= .d (.int .i64 n)∧s.af 2= .d (.bool up)∧s.af 3= .box 3 0∧s.aA 3=some ⟨false,false,.cells [.d (.bool x.neg),.d (.ints .i64 (au x.m)),.d (.int .i64 x.e)]⟩∧s.af 6= .box 6 0∧(∃bJ bu bs,s.aA 6=some ⟨false,false,.cells [bJ,bu,bs]⟩)) ?_ ?_
  ·by_cases ay:(x.e - jK).tmod 2=0
   ·have cZ:((x.e - jK).tmod 2==0)=true:=by rw[ay];rfl
    have qi:jK=(k:Int):=by have:=Int.emod_emod_of_dvd (x.e - jK) (Int.dvd_refl 2);have h2:=Int.dvd_of_tmod_eq_zero ay;omega
    subst qi
    simp (maxSteps:=9^9) only[↓al,ak,simprocAttr,aS,h1,h2,aq,a5,aM,aY,cZ,bne,Bool.not_true]
    ((repeat' apply And.intro)<;>first|assumption|with_reducible rfl|omega|(simp only[aI];omega)|exact⟨_,rfl⟩|exact⟨_,_,_,rfl⟩|exact⟨_,_,_,_,_,_,rfl⟩)
   ·have cZ:((x.e - jK).tmod 2==0)=false:=beq_false_of_ne ay
    have qi:jK+1=(k:Int):=by have h2:¬(2:Int)∣x.e - jK:=fun h=>ay (Int.tmod_eq_zero_of_dvd h);omega
    simp (maxSteps:=9^9) only[↓al,ak,simprocAttr,aS,h1,h2,aq,a5,aM,aY,cZ,bne,Bool.not_false,qi]
    ((repeat' apply And.intro)<;>first|assumption|with_reducible rfl|omega|(simp only[aI];omega)|exact⟨_,rfl⟩|exact⟨_,_,_,rfl⟩|exact⟨_,_,_,_,_,_,rfl⟩)
  clear aS h1 h2 aq a5 aM aY
  rintro s ⟨aS,h1,h2,aq,a5,aM,bJ,bu,bs,aY⟩
  by_cases ay:a7 M*a7 M=M
  ·have cy:cU M=2*a7 M:=by unfold cU;rw[if_neg (by omega)]
   have VI:uy.res [.ints .i64 (au (a7 M*a7 M)),.ints .i64 (au M)]= .bool true:=by simp only[uy,ay,decide_true]
   have DI:fu.pre [.bool false,.ints .i64 (au (a7 M)),.int .i64 q]:=⟨_,_,_,rfl,by omega,by omega,by omega⟩
   have Ab:fu.res [.bool false,.ints .i64 (au (a7 M)),.int .i64 q]=aV (mk false (cU M) (q - 1)):=by simp only[fu,bT];rw[cy,arj]
   simp only[aV,aZ]at Ab PO
   simp (maxSteps:=9^9) only[↓al,ak,simprocAttr,Ah,aV,ck,aS,h1,h2,aq,a5,aM,aY,rh,K7,K8,aet,K9,La,C8,Lb,Lc,ahy,ahz,VI,K6,BB,DI,Ab,PK,PH,PO]
   ((repeat' apply And.intro)<;>first|assumption|with_reducible rfl|omega|(simp only[aI];omega)|exact⟨_,rfl⟩|exact⟨_,_,_,rfl⟩|exact⟨_,_,_,_,_,_,rfl⟩)
  ·have cy:cU M=2*a7 M+1:=by have:=(oL M).1;unfold cU;rw[if_pos (by omega)]
   have VI:uy.res [.ints .i64 (au (a7 M*a7 M)),.ints .i64 (au M)]= .bool false:=by
    simp only[uy]
    rw[decide_eq_false (fun h=>ay (YC h))]
   have aW:a1 (2*a7 M)≤a1 (cU M):=tm (by omega)
   have dS:=gh (2*a7 M)
   have pad:js.pre [.ints .i64 (au (2*a7 M)),.ints .i64 [1]]:=⟨_,_,rfl,c4 _,by rw[←cI];exact c4 1,by omega,by decide⟩
   have VC:js.res [.ints .i64 (au (2*a7 M)),.ints .i64 [1]]= .ints .i64 (au (cU M)):=by simp only[js,←cI,bT,aZ,cy]
   have DI:fu.pre [.bool false,.ints .i64 (au (cU M)),.int .i64 (q - 1)]:=⟨_,_,_,rfl,by omega,by omega,by omega⟩
   have Ab:fu.res [.bool false,.ints .i64 (au (cU M)),.int .i64 (q - 1)]=aV (mk false (cU M) (q - 1)):=by simp only[fu,bT]
   simp only[aV,aZ]at Ab PO
   simp (maxSteps:=9^9) only[↓al,ak,simprocAttr,Ah,aV,ck,aS,h1,h2,aq,a5,aM,aY,rh,K7,K8,OD,OE,aet,K9,La,C8,Lb,Lc,ahy,ahz,VI,BA,pad,VC,K6,BB,DI,Ab,PK,PH,PO]
   ((repeat' apply And.intro)<;>first|assumption|with_reducible rfl|omega|(simp only[aI];omega)|exact⟨_,rfl⟩|exact⟨_,_,_,rfl⟩|exact⟨_,_,_,_,_,_,rfl⟩)
def y4:br where
 pre:=fun ds=>∃(x:bQ) (k:Int),ds=[a2 x,.int .i64 k]∧k1 x∧0≤k∧k≤1000
 res:=fun ds=>match ds with
  |[p,.int _ k]=>sn (hk p) k
  |_=> .nilp
theorem ahA (Γ:Env) (awa:Γ.has 81 Ah) (ahB:Γ.has 80 ql) (ds:List D) (h:y4.pre ds):bK Γ Vi Vj ds fun d=>d=y4.res ds:=by
 obtain⟨x,k,rfl,⟨gb,g2⟩,h1,h2⟩:=h
 have lN:au 0=[]:=by decide+kernel
 by_cases aE:ik x.lo<0
 ·have ar:sn x k= .du [a2 ⟨⟨false,0,0⟩,⟨false,0,0⟩⟩,.bool false]:=by unfold sn;rw[if_pos aE]
  simp (maxSteps:=9^9) only[↓al,ak,simprocAttr,Vi,Vj,y4,a2,dY,ar,aE,lN,ahB,ql,aV,ck]
  first|done|exact⟨x.lo,rfl⟩
 ·have ar:sn x k= .du [a2 (tE x k),.bool true]:=by unfold sn;rw[if_neg aE]
  simp (maxSteps:=9^9) only[↓al,ak,simprocAttr,Vi,Vj,y4,a2,dY,ar,aE,lN,tE,ahB,ql,aV,ck,awa,Ah]
  exact⟨⟨x.lo,rfl⟩,⟨x.lo,k,false,rfl,gb,h1,h2⟩,⟨x.hi,k,true,rfl,g2,h1,h2⟩⟩
theorem ark {n j:Nat} (h0:n≠0) (aF:j≤b2 n):n / 2^j=n / 2^b2 n*2^(b2 n - j):=by
 refine Nat.div_eq_of_eq_mul_left (Nat.two_pow_pos _) ?_
 rw[Nat.mul_assoc,←Nat.pow_add,show b2 n - j+j=b2 n by omega]
 exact(jN h0).1.symm
theorem akp {n j:Nat} (h0:n≠0) (aF:j<b2 n):n / 2^j % 2=0:=by
 rw[ark h0 (by omega),show b2 n - j=b2 n - j - 1+1 by omega,Nat.pow_succ,←Nat.mul_assoc]
 exact Nat.mul_mod_left _ _
theorem XY {n j:Nat} (h0:n≠0) (aF:j≤b2 n):0<n / 2^j:=
 Nat.div_pos (Nat.le_trans (Nat.pow_le_pow_right (by decide) aF) (MJ h0)) (Nat.two_pow_pos _)
def o3:br where
 pre:=fun ds=>∃(K:Int) (Q:Nat),ds=[cd K Q]∧Q≤60∧aI K
 res:=fun ds=>match ds with
  |[.agg [.int _ K,.int _ Q]]=>jl (an K Q.toNat)
  |_=> .nilp
theorem OH (Γ:Env) (ds:List D) (h:o3.pre ds):bK Γ abS abT ds fun d=>d=o3.res ds:=by
 obtain⟨K,Q,rfl,cw,b9⟩:=h
 have aQ:=abm cw
 have h0:=Nat.two_pow_pos Q
 have CY:Q≤64:=by omega
 have bl:=NY K Q
 have bO:o3.res [cd K Q]=cd (py K Q) (pz K Q):=by simp only[o3,cd,Int.toNat_natCast];exact(abn K cw).symm
 rw[bO]
 obtain⟨P,uM⟩:∃P:Nat,P=2^Q:=⟨_,rfl⟩
 have mI:(1:Int)*2^Q=(P:Int):=by rw[Int.one_mul,uM];exact_mod_cast rfl
 have ay:=RY K Q
 rw[←uM]at ay aQ h0 bl
 have iL:=Int.tmod_lt_of_pos K (show (0:Int)<P by omega)
 have DE: -(P:Int)<K.tmod P:=Int.lt_tmod_of_pos K (by omega)
 have BV:(K.tmod P+P).tmod P=(hS K Q:Int):=by
  rw[Int.tmod_eq_emod_of_nonneg (by omega),Int.add_emod_right,←ay]
  have:=Int.mul_tdiv_add_tmod K P
  rw[show K.tmod P=K+P*(-(K.tdiv P))by rw[Int.mul_neg];omega,Int.add_mul_emod_self_left]
 have awb:(P:Int)≠0:=by omega
 obtain⟨n,aJ⟩:∃n,n=hS K Q:=⟨_,rfl⟩
 rw[←aJ]at BV bl
 rw[gx]
 unfold abS abT
 refine bC (fun s=>s.af 1= .box 1 0∧s.aA 1=some ⟨false,false,.cells [.d (.int .i64 K),.d (.int .i64 Q)]⟩∧s.af 2= .box 2 0∧s.aA 2=some ⟨false,false,.cells [.d (.int .i64 0),.d (.int .i64 0)]⟩) ?_ ?_
 ·simp (maxSteps:=9^9) only[↓al,ak,simprocAttr,cd]
 rintro s ⟨h1,bM,h2,aW⟩
 refine bC (fun s=>s.af 3= .d (.int .i64 P)∧s.af 1= .box 1 0∧s.aA 1=some ⟨false,false,.cells [.d (.int .i64 K),.d (.int .i64 Q)]⟩∧s.af 2= .box 2 0∧s.aA 2=some ⟨false,false,.cells [.d (.int .i64 0),.d (.int .i64 0)]⟩) ?_ ?_
 ·simp (maxSteps:=9^9) only[↓al,ak,simprocAttr,h1,bM,h2,aW,Int.toNat_natCast,CY,mI]
  ((repeat' apply And.intro)<;>first|assumption|with_reducible rfl|omega|(simp only[aI];omega)|exact⟨_,rfl⟩|exact⟨_,_,_,rfl⟩|exact⟨_,_,_,_,_,_,rfl⟩)
 rintro s ⟨aq,h1,bM,h2,aW⟩
 refine bC (fun s=>s.af 4= .d (.int .i64 n)∧s.af 1= .box 1 0∧s.aA 1=some ⟨false,false,.cells [.d (.int .i64 K),.d (.int .i64 Q)]⟩∧s.af 2= .box 2 0∧s.aA 2=some ⟨false,false,.cells [.d (.int .i64 0),.d (.int .i64 0)]⟩) ?_ ?_
 ·simp (maxSteps:=9^9) only[↓al,ak,simprocAttr,h1,bM,h2,aW,aq,BV,awb]
  ((repeat' apply And.intro)<;>first|assumption|with_reducible rfl|omega|(simp only[aI];omega)|exact⟨_,rfl⟩|exact⟨_,_,_,rfl⟩|exact⟨_,_,_,_,_,_,rfl⟩)
 rintro s ⟨aK,h1,bM,h2,aW⟩
 refine bC (fun s=>s.af 5= .d (.int .i64 Q)∧s.af 4= .d (.int .i64 n)∧s.af 2= .box 2 0∧s.aA 2=some ⟨false,false,.cells [.d (.int .i64 0),.d (.int .i64 0)]⟩) ?_ ?_
 ·simp (maxSteps:=9^9) only[↓al,ak,simprocAttr,h1,bM,h2,aW,aK]
 rintro s ⟨aG,aK,h2,aW⟩
 refine cB (fun s=>s.af 5= .d (.int .i64 (if n=0 then Q else Q - b2 n:Int))∧s.af 4= .d (.int .i64 (n / 2^b2 n:Nat))∧s.af 2= .box 2 0∧s.aA 2=some ⟨false,false,.cells [.d (.int .i64 0),.d (.int .i64 0)]⟩) ?_ ?_
 ·simp (maxSteps:=9^9) only[↓al,ak,simprocAttr]
  refine eV (fun s=>∃j:Nat,s.af 5= .d (.int .i64 (Q - j))∧s.af 4= .d (.int .i64 (n / 2^j:Nat))∧s.af 2= .box 2 0∧s.aA 2=some ⟨false,false,.cells [.d (.int .i64 0),.d (.int .i64 0)]⟩∧(n=0→j=0)∧(n≠0→j≤b2 n))
   (fun s=>match s.af 4 with| .d (.int _ n)=>n.toNat|_=>0) ?_ ?_
  ·exact⟨0,by rw[aG];simp,by rw[aK];simp,h2,aW,fun _=>rfl,fun _=>Nat.zero_le _⟩
  ·rintro s ⟨j,aG,aK,h2,aW,ayz,HD⟩
   obtain⟨k,ad⟩:∃k,k=n / 2^j:=⟨_,rfl⟩
   rw[←ad]at aK
   have yZ:k≤n:=ad▸Nat.div_le_self _ _
   have yW:(k:Int).tmod 2=((k % 2:Nat):Int):=by rw[Int.tmod_eq_emod_of_nonneg (by omega)];omega
   have Vu:(k:Int).tdiv 2=((k / 2:Nat):Int):=by rw[Int.tdiv_eq_ediv_of_nonneg (by omega)];omega
   by_cases eS:n=0
   ·have Ar:=ayz eS
    subst Ar
    have ek:k=0:=by rw[ad,eS]
    have bR:¬((k:Int)>0):=by omega
    simp (maxSteps:=9^9) only[↓al,ak,simprocAttr,aG,aK,h2,aW,bR]
    rw[if_pos eS,eS,ek]
    exact⟨by simp,by simp⟩
   ·have aF:=HD eS
    have cO:0<k:=ad▸XY eS aF
    have bR:(k:Int)>0:=by omega
    by_cases ahC:j<b2 n
    ·have Wx:k % 2=0:=ad▸akp eS ahC
     have bS:(((k % 2:Nat):Int)==0)=true:=by rw[Wx];rfl
     simp (maxSteps:=2000000) only[↓al,ak,↓reduceIte,reduceCtorEq,Nat.reduceEqDiff,Nat.reduceLeDiff,Nat.reduceSub,Nat.reduceAdd,Int.reduceToNat,Nat.reducePow,Int.reducePow,Int.reduceLE,Int.reduceLT,IntKind.bits,aG,aK,h2,aW,bR,yW,Vu,bS,Int.toNat_natCast]
     have:b2 n<Q:=zM eS (uM▸bl)
     refine⟨by decide,by decide,by simp only[aI];omega,by simp only[aI];omega,⟨j+1,by omega,?_,fun h=>absurd h eS,fun _=>ahC⟩,by omega⟩
     rw[ad,Nat.pow_succ,Nat.div_div_eq_div_mul]
    ·have Ar:j=b2 n:=by omega
     have Wx:k % 2=1:=by rw[ad,Ar];exact(jN eS).2
     have bS:(((k % 2:Nat):Int)==0)=false:=by rw[Wx];rfl
     simp (maxSteps:=2000000) only[↓al,ak,↓reduceIte,reduceCtorEq,Nat.reduceEqDiff,Nat.reduceLeDiff,Nat.reduceSub,Nat.reduceAdd,Int.reduceToNat,Nat.reducePow,Int.reducePow,Int.reduceLE,Int.reduceLT,IntKind.bits,aG,aK,h2,aW,bR,yW,bS,if_neg eS]
     rw[ad,Ar]
     exact⟨by decide,rfl,rfl⟩
 rintro s ⟨aG,aK,h2,aW⟩
 by_cases eS:n=0
 ·have aN:py K Q=0:=by unfold py;rw[←aJ,eS];exact Nat.zero_div _
  have aX:pz K Q=0:=by unfold pz;rw[←aJ,if_pos eS]
  have Vx:((py K Q:Nat):Int)=0:=by rw[aN];rfl
  have Vy:((pz K Q:Nat):Int)=0:=by rw[aX];rfl
  have cc:((n / 2^b2 n:Nat):Int)=0:=by rw[eS,Nat.zero_div];rfl
  rw[cc]at aK
  simp (maxSteps:=9^9) only[↓al,ak,simprocAttr,aG,aK,h2,aW,beq_self_eq_true,Vx,Vy,cd]
 ·have aN:((n / 2^b2 n:Nat):Int)=py K Q:=by unfold py;rw[←aJ]
  have aX:(Q:Int) - b2 n=(pz K Q:Int):=by
   have:b2 n<Q:=zM eS (uM▸bl)
   unfold pz;rw[←aJ,if_neg eS];omega
  have aw:((py K Q:Int)==0)=false:=by
   have:=XY eS (Nat.le_refl _)
   exact beq_false_of_ne (by omega)
  rw[if_neg eS,aX]at aG
  rw[aN]at aK
  simp (maxSteps:=9^9) only[↓al,ak,simprocAttr,aG,aK,h2,aW,aw,cd]
theorem F5 (K:Int) (Q:Nat):o3.res [.agg [.int .i64 K,.int .i64 Q]]= .agg [.int .i64 (b5 (an K Q)),.int .i64 (a0 (an K Q))]:=by simp only[o3,Int.toNat_natCast];rfl
theorem i107 {K:Int} {Q:Nat} (h:Q≤60) (ar:aI K):o3.pre [.agg [.int .i64 K,.int .i64 Q]]:=⟨K,Q,rfl,h,ar⟩
def y5:br where
 pre:=fun ds=>∃(K:Int) (Q:Nat),ds=[cd K Q]∧Q≤60∧aI (-K)
 res:=fun ds=>match ds with
  |[.agg [.int _ K,.int _ Q]]=>jl (an (-K) Q.toNat)
  |_=> .nilp
theorem awc (Γ:Env) (yK:Γ.has 107 o3) (ds:List D) (h:y5.pre ds):bK Γ af1 af2 ds fun d=>d=y5.res ds:=by
 obtain⟨K,Q,rfl,cw,ar⟩:=h
 have bO:y5.res [cd K Q]=jl (an (-K) Q):=by simp only[y5,cd,Int.toNat_natCast]
 rw[bO]
 have p1:=i107 cw ar
 have bA:=F5 (-K) Q
 simp (maxSteps:=9^9) only[↓al,ak,simprocAttr,af1,af2,cd,yK,Int.zero_sub,p1,bA,ar,jl]
theorem awd (K:Int) (Q:Nat):y5.res [.agg [.int .i64 K,.int .i64 Q]]= .agg [.int .i64 (b5 (an (-K) Q)),.int .i64 (a0 (an (-K) Q))]:=by simp only[y5,Int.toNat_natCast];rfl
def qc:br where
 pre:=fun ds=>∃(K:Int) (Q q:Nat),ds=[cd K Q,.int .i64 q]∧Q≤q∧q≤60∧aI K
 res:=fun ds=>match ds with
  |[.agg [.int _ K,.int _ Q],.int _ q]=> .int .i64 (an K Q.toNat / 2^(60 - q.toNat):Nat)
  |_=> .nilp
theorem OI (Γ:Env) (yK:Γ.has 107 o3) (ds:List D) (h:qc.pre ds):bK Γ acU acV ds fun d=>d=qc.res ds:=by
 obtain⟨K,Q,q,rfl,cw,aO,ar⟩:=h
 have bO:qc.res [cd K Q,.int .i64 q]= .int .i64 (an K Q / 2^(60 - q):Nat):=by simp only[qc,cd,Int.toNat_natCast]
 rw[bO]
 have aeu:Q≤60:=by omega
 have p1:=i107 aeu ar
 have bA:=F5 K Q
 have hn:=CU K aeu
 obtain⟨a,a6⟩:∃a,a=an K Q:=⟨_,rfl⟩
 have b4:a<1152921504606846976:=a6▸ft K Q
 rw[←a6]at bA hn⊢
 have s1:(q:Int) - (a0 a:Int)=((q - a0 a:Nat):Int):=by omega
 have ct:=EO b4 (by omega:a0 a≤q) aO
 have cf:(b5 a:Int)*2^(q - a0 a)=((a / 2^(60 - q):Nat):Int):=by rw[←ct,Int.natCast_mul];exact_mod_cast rfl
 have bu:a / 2^(60 - q)≤a:=Nat.div_le_self _ _
 have e0:q - a0 a≤64:=by omega
 simp (maxSteps:=9^9) only[↓al,ak,simprocAttr,acU,acV,cd,yK,p1,bA,s1,Int.toNat_natCast,e0,cf]
 ((repeat' apply And.intro)<;>first|assumption|with_reducible rfl|omega|(simp only[aI];omega)|exact⟨_,rfl⟩|exact⟨_,_,_,rfl⟩|exact⟨_,_,_,_,_,_,rfl⟩)
theorem TV (K:Int) (Q q:Nat):qc.res [.agg [.int .i64 K,.int .i64 Q],.int .i64 q]= .int .i64 (an K Q / 2^(60 - q):Nat):=by simp only[qc,Int.toNat_natCast]
def rS:br where
 pre:=fun ds=>∃(K:Int) (Q:Nat) (L:Int) (R:Nat),ds=[cd K Q,cd L R]∧Q≤60∧R≤60∧aI K∧aI L
 res:=fun ds=>match ds with
  |[.agg [.int _ K,.int _ Q],.agg [.int _ L,.int _ R]]=>jl ((an K Q.toNat+an L R.toNat) % 1152921504606846976)
  |_=> .nilp
theorem R0 (K:Int) {Q q:Nat} (h1:Q≤q) (h2:q≤60):an K Q / 2^(60 - q)*2^(60 - q)=an K Q:=by
 have h:=ft K Q
 have g:=CU K (by omega:Q≤60)
 rw[←EO h (by omega:a0 (an K Q)≤q) h2,Nat.mul_assoc,←Nat.pow_add,show q - a0 (an K Q)+(60 - q)=60 - a0 (an K Q)by omega,Bi h]
theorem ahD (Γ:Env) (yK:Γ.has 107 o3) (TW:Γ.has 117 qc) (ds:List D) (h:rS.pre ds):bK Γ ago agp ds fun d=>d=rS.res ds:=by
 obtain⟨K,Q,L,R,rfl,cw,eC,b9,dz⟩:=h
 have bO:rS.res [cd K Q,cd L R]=jl ((an K Q+an L R) % 1152921504606846976):=by simp only[rS,cd,Int.toNat_natCast]
 rw[bO]
 obtain⟨q,aO⟩:∃q,q=max Q R:=⟨_,rfl⟩
 have dP:Q≤q:=by omega
 have fw:R≤q:=by omega
 have gF:q≤60:=by omega
 have p1:qc.pre [.agg [.int .i64 K,.int .i64 Q],.int .i64 q]:=⟨K,Q,q,rfl,dP,gF,b9⟩
 have cq:qc.pre [.agg [.int .i64 L,.int .i64 R],.int .i64 q]:=⟨L,R,q,rfl,fw,gF,dz⟩
 have bA:=TV K Q q
 have bX:=TV L R q
 have cj:=R0 K dP gF
 have ej:=R0 L fw gF
 have b4:=ft K Q
 have dJ:=ft L R
 obtain⟨a,a6⟩:∃a,a=an K Q / 2^(60 - q):=⟨_,rfl⟩
 obtain⟨b,aw⟩:∃b,b=an L R / 2^(60 - q):=⟨_,rfl⟩
 have bu:a≤an K Q:=a6▸Nat.div_le_self _ _
 have bs:b≤an L R:=aw▸Nat.div_le_self _ _
 rw[←a6]at bA cj
 rw[←aw]at bX ej
 have i3:aI ((a:Int)+b):=by simp only[aI];omega
 have fK:=i107 gF i3
 have eJ:=F5 ((a:Int)+b) q
 have cc:an ((a:Int)+b) q=(an K Q+an L R) % 1152921504606846976:=by
  rw[aaJ,Ja,Ja,cj,ej];omega
 rw[cc]at eJ
 rw[gx]
 unfold ago agp
 refine bC (fun s=>s.af 2= .box 2 0∧s.aA 2=some ⟨false,false,.cells [.d (.int .i64 K),.d (.int .i64 Q)]⟩∧s.af 3= .box 3 0∧s.aA 3=some ⟨false,false,.cells [.d (.int .i64 L),.d (.int .i64 R)]⟩∧s.af 4= .box 4 0∧s.aA 4=some ⟨false,false,.cells [.d (.int .i64 0),.d (.int .i64 0)]⟩) ?_ ?_
 ·simp (maxSteps:=9^9) only[↓al,ak,simprocAttr,cd]
 rintro s ⟨h2,aW,aq,a5,aK,a9⟩
 refine bC (fun s=>s.af 5= .d (.int .i64 q)∧s.af 2= .box 2 0∧s.aA 2=some ⟨false,false,.cells [.d (.int .i64 K),.d (.int .i64 Q)]⟩∧s.af 3= .box 3 0∧s.aA 3=some ⟨false,false,.cells [.d (.int .i64 L),.d (.int .i64 R)]⟩∧s.af 4= .box 4 0∧s.aA 4=some ⟨false,false,.cells [.d (.int .i64 0),.d (.int .i64 0)]⟩) ?_ ?_
 ·simp (maxSteps:=9^9) only[↓al,ak,simprocAttr,h2,aW,aq,a5,aK,a9]
  split<;>omega
 rintro s ⟨aG,h2,aW,aq,a5,aK,a9⟩
 simp (maxSteps:=9^9) only[↓al,ak,simprocAttr,aG,h2,aW,aq,a5,aK,a9,TW,p1,bA,cq,bX,yK,fK,eJ,jl,cd]
 ((repeat' apply And.intro)<;>first|assumption|with_reducible rfl|omega|(simp only[aI];omega)|exact⟨_,rfl⟩|exact⟨_,_,_,rfl⟩|exact⟨_,_,_,_,_,_,rfl⟩)
def yL:br where
 pre:=fun ds=>∃(K:Int) (Q:Nat),ds=[cd K Q]∧Q≤60∧aI K
 res:=fun ds=>match ds with
  |[.agg [.int _ K,.int _ Q]]=>vP (an K Q.toNat)
  |_=> .nilp
theorem aev (Γ:Env) (yK:Γ.has 107 o3) (TW:Γ.has 117 qc) (ds:List D) (h:yL.pre ds):bK Γ ac4 ac5 ds fun d=>d=yL.res ds:=by
 obtain⟨K,Q,rfl,cw,b9⟩:=h
 have bO:yL.res [cd K Q]=vP (an K Q):=by simp only[yL,cd,Int.toNat_natCast]
 rw[bO]
 obtain⟨q,aO⟩:∃q,q=max Q 3:=⟨_,rfl⟩
 have dP:Q≤q:=by omega
 have fw:3≤q:=by omega
 have gF:q≤60:=by omega
 have p1:qc.pre [.agg [.int .i64 K,.int .i64 Q],.int .i64 q]:=⟨K,Q,q,rfl,dP,gF,b9⟩
 have bA:=TV K Q q
 have cj:=R0 K dP gF
 obtain⟨a,a6⟩:∃a,a=an K Q:=⟨_,rfl⟩
 have b4:a<1152921504606846976:=a6▸ft K Q
 rw[←a6]at bA cj⊢
 obtain⟨k,ad⟩:∃k,k=a / 2^(60 - q):=⟨_,rfl⟩
 rw[←ad]at bA cj
 have azK:k≤a:=ad▸Nat.div_le_self _ _
 obtain⟨o,bz⟩:∃o,o=2^(q - 3):=⟨_,rfl⟩
 have aAp:0<o:=bz▸Nat.two_pow_pos _
 have jF:o≤144115188075855872:=bz▸Nat.pow_le_pow_right (n:=2) (by decide) (by omega:q - 3≤57)
 have Wy:o*2^(60 - q)=144115188075855872:=by rw[bz,←Nat.pow_add,show q - 3+(60 - q)=57 by omega]
 have sh:(1:Int)*2^(q - 3)=(o:Int):=by rw[Int.one_mul,bz];exact_mod_cast rfl
 have s1:(q:Int) - 3=((q - 3:Nat):Int):=by omega
 have e0:q - 3≤64:=by omega
 have zk:(o:Int)≠0:=by omega
 have ajl:k / o=ca a:=by
  unfold ca
  rw[ad,Nat.div_div_eq_div_mul,Nat.mul_comm,Wy]
 have ayA:(k:Int).tdiv o=(ca a:Int):=by rw[Int.tdiv_eq_ediv_of_nonneg (by omega),←ajl];exact_mod_cast rfl
 have eO:=Bj b4
 have r2:(ca a:Int).tmod 2=((ca a % 2:Nat):Int):=by rw[Int.tmod_eq_emod_of_nonneg (by omega)];omega
 have aAq:ca a*o≤k:=by rw[←ajl];exact Nat.div_mul_le_self _ _
 have azL:(ca a+1)*o≤1152921504606846976:=Nat.le_trans (Nat.mul_le_mul (by omega:ca a+1≤8) jF) (by decide)
 have bR:(ca a:Int)*(o:Int)=((ca a*o:Nat):Int):=(Int.natCast_mul _ _).symm
 have bS:((ca a:Int)+1)*(o:Int)=(((ca a+1)*o:Nat):Int):=by rw[Int.natCast_mul];exact_mod_cast rfl
 have ej:ca a*o*2^(60 - q)=ca a*144115188075855872:=by rw[Nat.mul_assoc,Wy]
 have qB:(ca a+1)*o*2^(60 - q)=(ca a+1)*144115188075855872:=by rw[Nat.mul_assoc,Wy]
 have i1:aI ((k:Int) - ((ca a*o:Nat):Int)):=by simp only[aI];omega
 have i2:aI ((((ca a+1)*o:Nat):Int) - k):=by simp only[aI];omega
 rw[gx]
 unfold ac4 ac5
 refine bC (fun s=>s.af 1= .box 1 0∧s.aA 1=some ⟨false,false,.cells [.d (.int .i64 K),.d (.int .i64 Q)]⟩∧s.af 2= .box 2 0∧s.aA 2=some ⟨false,false,.cells [.d (.int .i64 0),.d (.int .i64 0),.d (.int .i64 0)]⟩) ?_ ?_
 ·simp (maxSteps:=9^9) only[↓al,ak,simprocAttr,cd]
 rintro s ⟨h1,bM,h2,aW⟩
 refine bC (fun s=>s.af 3= .d (.int .i64 q)∧s.af 1= .box 1 0∧s.aA 1=some ⟨false,false,.cells [.d (.int .i64 K),.d (.int .i64 Q)]⟩∧s.af 2= .box 2 0∧s.aA 2=some ⟨false,false,.cells [.d (.int .i64 0),.d (.int .i64 0),.d (.int .i64 0)]⟩) ?_ ?_
 ·simp (maxSteps:=9^9) only[↓al,ak,simprocAttr,h1,bM,h2,aW]
  split<;>omega
 rintro s ⟨aq,h1,bM,h2,aW⟩
 refine bC (fun s=>s.af 4= .d (.int .i64 k)∧s.af 3= .d (.int .i64 q)∧s.af 2= .box 2 0∧s.aA 2=some ⟨false,false,.cells [.d (.int .i64 0),.d (.int .i64 0),.d (.int .i64 0)]⟩) ?_ ?_
 ·simp (maxSteps:=9^9) only[↓al,ak,simprocAttr,h1,bM,h2,aW,aq,TW,p1,bA]
 rintro s ⟨aK,aq,h2,aW⟩
 refine bC (fun s=>s.af 5= .d (.int .i64 o)∧s.af 4= .d (.int .i64 k)∧s.af 3= .d (.int .i64 q)∧s.af 2= .box 2 0∧s.aA 2=some ⟨false,false,.cells [.d (.int .i64 0),.d (.int .i64 0),.d (.int .i64 0)]⟩) ?_ ?_
 ·simp (maxSteps:=9^9) only[↓al,ak,simprocAttr,aK,aq,h2,aW,s1,Int.toNat_natCast,e0,sh]
  ((repeat' apply And.intro)<;>first|assumption|with_reducible rfl|omega|(simp only[aI];omega)|exact⟨_,rfl⟩|exact⟨_,_,_,rfl⟩|exact⟨_,_,_,_,_,_,rfl⟩)
 rintro s ⟨aG,aK,aq,h2,aW⟩
 refine bC (fun s=>s.af 6= .d (.int .i64 (ca a))∧s.af 5= .d (.int .i64 o)∧s.af 4= .d (.int .i64 k)∧s.af 3= .d (.int .i64 q)∧s.af 2= .box 2 0∧s.aA 2=some ⟨false,false,.cells [.d (.int .i64 0),.d (.int .i64 0),.d (.int .i64 0)]⟩) ?_ ?_
 ·simp (maxSteps:=9^9) only[↓al,ak,simprocAttr,aG,aK,aq,h2,aW,ayA,zk]
  ((repeat' apply And.intro)<;>first|assumption|with_reducible rfl|omega|(simp only[aI];omega)|exact⟨_,rfl⟩|exact⟨_,_,_,rfl⟩|exact⟨_,_,_,_,_,_,rfl⟩)
 rintro s ⟨aM,aG,aK,aq,h2,aW⟩
 by_cases he:ca a % 2=0
 ·have aw:(((ca a % 2:Nat):Int)==0)=true:=by rw[he];rfl
  have cq:=i107 gF i1
  have bX:=F5 ((k:Int) - ((ca a*o:Nat):Int)) q
  have aX:an ((k:Int) - ((ca a*o:Nat):Int)) q=bV a:=by
   unfold an bV
   rw[if_pos he,Int.sub_mul,←Int.natCast_mul,←Int.natCast_mul,cj,ej]
   have aE:ca a*144115188075855872≤a:=by unfold ca;exact Nat.div_mul_le_self _ _
   generalize ca a*144115188075855872=x at aE
   rw[Int.emod_eq_of_lt (by omega) (by omega),←Int.ofNat_sub aE,Int.toNat_natCast]
  rw[aX]at bX
  simp (maxSteps:=9^9) only[↓al,ak,simprocAttr,aM,aG,aK,aq,h2,aW,r2,aw,bR,yK,cq,bX,vP]
  ((repeat' apply And.intro)<;>first|assumption|with_reducible rfl|omega|(simp only[aI];omega)|exact⟨_,rfl⟩|exact⟨_,_,_,rfl⟩|exact⟨_,_,_,_,_,_,rfl⟩)
 ·have aw:(((ca a % 2:Nat):Int)==0)=false:=beq_false_of_ne (by omega)
  have cq:=i107 gF i2
  have bX:=F5 ((((ca a+1)*o:Nat):Int) - k) q
  have aX:an ((((ca a+1)*o:Nat):Int) - k) q=bV a:=by
   unfold an bV
   rw[if_neg he,Int.sub_mul,←Int.natCast_mul,←Int.natCast_mul,cj,qB]
   unfold ca at*
   omega
  rw[aX]at bX
  simp (maxSteps:=9^9) only[↓al,ak,simprocAttr,aM,aG,aK,aq,h2,aW,r2,aw,bS,yK,cq,bX,vP]
  ((repeat' apply And.intro)<;>first|assumption|with_reducible rfl|omega|(simp only[aI];omega)|exact⟨_,rfl⟩|exact⟨_,_,_,rfl⟩|exact⟨_,_,_,_,_,_,rfl⟩)
def BD:br where
 pre:=fun ds=>∃e:Int,ds=[.int .i64 e]∧0≤e∧e≤7
 res:=mf.res
theorem aew (Γ:Env) (ds:List D) (h:BD.pre ds):bK Γ abW abX ds fun d=>d=BD.res ds:=by
 obtain⟨e,rfl,avz,he⟩:=h
 have:e=0∨e=1∨e=2∨e=3∨e=4∨e=5∨e=6∨e=7:=by omega
 rcases this with rfl|rfl|rfl|rfl|rfl|rfl|rfl|rfl<;>
  (simp (maxSteps:=9^9) only[↓al,ak,simprocAttr,abW,abX,BD,mf,Int.reduceGT,Int.reduceGE,Int.reduceBEq,or_self,or_true,true_or,Int.reduceEq]<;>decide)
def vW:br where
 pre:=fun ds=>∃(K:Int) (Q:Int),ds=[cd K Q]
 res:=fun ds=>match ds with
  |[.agg [.int _ K,.int _ Q]]=> .bool (decide (0≤Q∧Q≤40∧-1099511627776≤K∧K≤1099511627776))
  |_=> .nilp
theorem Lg (Γ:Env) (ds:List D) (h:vW.pre ds):bK Γ agu agv ds fun d=>d=vW.res ds:=by
 obtain⟨K,Q,rfl⟩:=h
 by_cases h1:0≤Q<;>by_cases h2:Q≤40<;>by_cases aq: -1099511627776≤K<;>by_cases aK:K≤1099511627776<;>
  simp (maxSteps:=9^9) only[↓al,ak,simprocAttr,agu,agv,vW,cd,h1,h2,aq,aK,ge_iff_le,and_self,and_true,true_and,and_false,false_and]
def d1:a8:=⟨false,1,0⟩
theorem PQ:mk false 1 0=d1:=by decide+kernel
theorem cI:au 1=[1]:=by decide+kernel
theorem ahE:dj d1:=by rw[←PQ];exact sf (fun _=>by decide+kernel)
def qd:br where
 pre:=fun ds=>ds=[.int .i64 1]
 res:=fun ds=>aV d1
theorem F6 (Γ:Env) (BE:Γ.has 134 h3) (OJ:Γ.has 135 e9) (ds:List D) (h:qd.pre ds):bK Γ ab8 ab9 ds fun d=>d=qd.res ds:=by
 cases h
 have p1:h3.pre [.int .i64 1]:=⟨1,rfl,by simp only[aI];omega⟩
 have bA:h3.res [.int .i64 1]= .ints .i64 [1]:=by simp only[h3,aZ,Int.reduceToNat,cI]
 have cq:e9.pre [.bool false,.ints .i64 [1],.int .i64 0]:=⟨false,1,0,by rw[aZ,cI],by rw[cI];decide,by omega,by omega⟩
 have v1:val [1]=1:=by rw[←cI];exact bT 1
 have bX:e9.res [.bool false,.ints .i64 [1],.int .i64 0]=aV d1:=by simp only[e9,v1,PQ]
 simp (maxSteps:=9^9) only[↓al,ak,simprocAttr,ab8,ab9,BE,OJ,p1,bA,cq,bX,qd,aV,Int.reduceGT,Int.reduceNeg,Int.reduceSub,Int.zero_sub]
 ((repeat' apply And.intro)<;>first|assumption|with_reducible rfl|omega|(simp only[aI];omega)|exact⟨_,rfl⟩|exact⟨_,_,_,rfl⟩|exact⟨_,_,_,_,_,_,rfl⟩)
def kI (x:a8) (n:Int):a8:=if 0≤x.e+n then x else mk x.neg (x.m / 2^(-x.e - n).toNat+if x.neg then 1 else 0) (-n)
def tX:br where
 pre:=fun ds=>∃(x:a8) (n:Int),ds=[aV x,.int .i64 n]∧dj x∧0≤n∧n≤1000
 res:=fun ds=>match ds with
  |[p,.int _ n]=>aV (kI (fj p) n)
  |_=> .nilp
theorem F7 (Γ:Env) (VJ:Γ.has 82 hs) (TX:Γ.has 143 il) (atr:Γ.has 133 ju) (BE:Γ.has 134 h3) (OJ:Γ.has 135 e9) (ds:List D) (h:tX.pre ds):bK Γ adU adV ds fun d=>d=tX.res ds:=by
 obtain⟨x,n,rfl,aj,eS,kT⟩:=h
 have ex:=mH aj
 have c7:=l1 aj
 have bO:tX.res [aV x,.int .i64 n]=aV (kI x n):=by simp only[tX,aV,aZ,ck]
 rw[bO]
 unfold kI
 rw[gx]
 unfold adU adV
 refine bC (fun s=>s.af 1= .d (.int .i64 n)∧s.af 2= .box 2 0∧s.aA 2=some ⟨false,false,.cells [.d (.bool x.neg),.d (.ints .i64 (au x.m)),.d (.int .i64 x.e)]⟩∧s.af 4= .box 4 0∧s.aA 4=some ⟨false,false,.cells [.d (.bool false),.d (.ints .i64 []),.d (.int .i64 0)]⟩) ?_ ?_
 ·simp (maxSteps:=9^9) only[↓al,ak,simprocAttr,aV]
 rintro s ⟨h1,h2,aW,aK,a9⟩
 by_cases ad:0≤x.e+n
 ·have cE:x.e+n≥0:=ad
  have iA:hs.pre [.agg [.bool x.neg,.ints .i64 (au x.m),.int .i64 x.e],.int .i64 0]:=⟨x,0,rfl,aj,by omega,by omega⟩
  have ic:hs.res [.agg [.bool x.neg,.ints .i64 (au x.m),.int .i64 x.e],.int .i64 0]= .agg [.bool x.neg,.ints .i64 (au x.m),.int .i64 x.e]:=by
   simp only[hs,ck,Mh aj.1,aV,aZ]
  rw[if_pos ad]
  simp (maxSteps:=9^9) only[↓al,ak,simprocAttr,h1,h2,aW,aK,a9,cE,VJ,iA,ic,aV]
  ((repeat' apply And.intro)<;>first|assumption|with_reducible rfl|omega|(simp only[aI];omega)|exact⟨_,rfl⟩|exact⟨_,_,_,rfl⟩|exact⟨_,_,_,_,_,_,rfl⟩)
 ·have cE:¬(x.e+n≥0):=ad
  obtain⟨k,ek⟩:∃k:Int,k= -x.e - n:=⟨_,rfl⟩
  have afm: -x.e - n=k:=ek.symm
  obtain⟨M,cp⟩:∃M,M=x.m / 2^k.toNat:=⟨_,rfl⟩
  have mI:il.res [.ints .i64 (au x.m),.int .i64 k]= .ints .i64 (au M):=by simp only[il,bT,←cp,aZ]
  have G0:il.pre [.ints .i64 (au x.m),.int .i64 k]:=⟨_,_,rfl,c4 _,by omega,by simp only[aI];omega⟩
  have ayB:x.m<16777216^(au x.m).length:=by have:=k6 (c4 x.m);rwa [bT]at this
  have awe:M≤x.m:=cp▸Nat.div_le_self _ _
  have azM:(au (M+1)).length≤(au x.m).length+1:=x7 (by rw[Nat.pow_succ];omega)
  have Qc:(au M).length≤(au x.m).length:=x7 (Nat.lt_of_le_of_lt awe ayB)
  rw[if_neg ad,←ek,←cp]
  refine bC (fun s=>s.af 1= .d (.int .i64 n)∧s.af 2= .box 2 0∧s.aA 2=some ⟨false,false,.cells [.d (.bool x.neg),.d (.ints .i64 (au x.m)),.d (.int .i64 x.e)]⟩∧s.af 4= .box 4 0∧s.aA 4=some ⟨false,false,.cells [.d (.bool false),.d (.ints .i64 []),.d (.int .i64 0)]⟩) ?_ ?_
  ·simp (maxSteps:=9^9) only[↓al,ak,simprocAttr,h1,h2,aW,aK,a9,cE]
   ((repeat' apply And.intro)<;>first|assumption|with_reducible rfl|omega|(simp only[aI];omega)|exact⟨_,rfl⟩|exact⟨_,_,_,rfl⟩|exact⟨_,_,_,_,_,_,rfl⟩)
  rintro s ⟨h1,h2,aW,aK,a9⟩
  refine bC (fun s=>s.af 5= .d (.ints .i64 (au M))∧s.af 1= .d (.int .i64 n)∧s.af 2= .box 2 0∧s.aA 2=some ⟨false,false,.cells [.d (.bool x.neg),.d (.ints .i64 (au x.m)),.d (.int .i64 x.e)]⟩∧s.af 4= .box 4 0∧s.aA 4=some ⟨false,false,.cells [.d (.bool false),.d (.ints .i64 []),.d (.int .i64 0)]⟩) ?_ ?_
  ·simp (maxSteps:=9^9) only[↓al,ak,simprocAttr,h1,h2,aW,aK,a9,afm,TX,G0,mI,Int.zero_sub]
   ((repeat' apply And.intro)<;>first|assumption|with_reducible rfl|omega|(simp only[aI];omega)|exact⟨_,rfl⟩|exact⟨_,_,_,rfl⟩|exact⟨_,_,_,_,_,_,rfl⟩)
  rintro s ⟨aG,h1,h2,aW,aK,a9⟩
  cases aJ:x.neg with
  |false=>
   rw[aJ]at aW
   have K4:e9.pre [.bool false,.ints .i64 (au M),.int .i64 (-n)]:=⟨_,M,_,rfl,by omega,by omega,by omega⟩
   have K5:e9.res [.bool false,.ints .i64 (au M),.int .i64 (-n)]=aV (mk false M (-n)):=by simp only[e9,bT]
   simp (maxSteps:=9^9) only[↓al,ak,simprocAttr,aG,h1,h2,aW,aK,a9,OJ,K4,K5,aV,Int.zero_sub,Nat.add_zero,Bool.false_eq_true]
   ((repeat' apply And.intro)<;>first|assumption|with_reducible rfl|omega|(simp only[aI];omega)|exact⟨_,rfl⟩|exact⟨_,_,_,rfl⟩|exact⟨_,_,_,_,_,_,rfl⟩)
  |true=>
   rw[aJ]at aW
   have p1:h3.pre [.int .i64 1]:=⟨1,rfl,by simp only[aI];omega⟩
   have bA:h3.res [.int .i64 1]= .ints .i64 [1]:=by simp only[h3,aZ,Int.reduceToNat,cI]
   have v1:val [1]=1:=by rw[←cI];exact bT 1
   have cq:ju.pre [.ints .i64 (au M),.ints .i64 [1]]:=⟨_,_,rfl,c4 _,cI▸c4 1,by omega,by decide⟩
   have bX:ju.res [.ints .i64 (au M),.ints .i64 [1]]= .ints .i64 (au (M+1)):=by simp only[ju,bT,v1,aZ]
   have K4:e9.pre [.bool true,.ints .i64 (au (M+1)),.int .i64 (-n)]:=⟨_,M+1,_,rfl,by omega,by omega,by omega⟩
   have K5:e9.res [.bool true,.ints .i64 (au (M+1)),.int .i64 (-n)]=aV (mk true (M+1) (-n)):=by simp only[e9,bT]
   simp (maxSteps:=9^9) only[↓al,ak,simprocAttr,aG,h1,h2,aW,aK,a9,OJ,BE,atr,p1,bA,cq,bX,K4,K5,aV,Int.zero_sub]
   ((repeat' apply And.intro)<;>first|assumption|with_reducible rfl|omega|(simp only[aI];omega)|exact⟨_,rfl⟩|exact⟨_,_,_,rfl⟩|exact⟨_,_,_,_,_,_,rfl⟩)
end RV.Dr
namespace RV
open Go
section
variable {Γ:Env} {σ:St} {K:St→Prop}
theorem XA:∀(a b:List (bW×List Nat)) (σ:St),di Γ (di Γ K b) a σ→di Γ K (a++b) σ
 |[],_,_,h=>h
 |o::r,b,σ,h=>by
  simp only[di,List.cons_append]at*
  have key:di Γ (di Γ K b) r=fun s=>di Γ (di Γ K b) r s:=rfl
  have hm:∀s,di Γ (di Γ K b) r s→di Γ K (r++b) s:=fun s aE=>XA r b s aE
  have:=Cv (Γ:=Γ) hm (os:=[o]) (σ:=σ) (by simpa only[di]using h)
  simpa only[di]using this
theorem ya (n:Nat) (R:St→Prop) {ops:List (bW×List Nat)} (h:di Γ R (ops.take n) σ) (aw:∀s,R s→di Γ K (ops.drop n) s):di Γ K ops σ:=by
 have:=XA (Γ:=Γ) (K:=K) (ops.take n) (ops.drop n) σ (Cv aw h)
 rwa [List.take_append_drop]at this
theorem QV:∀{ops:List (bW×List Nat)} {σ:St},(ops.all fun o=> !o.1.op.makes)=true→pT σ ops=σ
 |[],_,_=>rfl
 |o::r,σ,h=>by
  simp only[List.all_cons,Bool.and_eq_true,Bool.not_eq_true']at h
  simp only[pT,h.1]
  exact QV h.2
end
end RV
namespace RV.Dr
open Go RV
set_option linter.unusedSimpArgs false
set_option linter.unusedVariables false
set_option maxRecDepth 100000
set_option maxHeartbeats 4000000
def zK (b:Bool) (xs:List Int) (e:Int):Bool:=decide (xs.length≤8) && (atn b xs e && (decide (e≤200) && decide (-200≤e)))
def fW (E:Int) (d:a8):Prop:=d.m≠0→E≤d.e
theorem fW.of {lo hi E:Int} {d:a8} (h:d.win lo hi) (l:E≤lo):fW E d:=win.lo h l
theorem fW.mul {E F:Int} {a b:a8} (a6:fW E a) (aw:fW F b):fW (E+F) (cV a b):=by
 unfold cV
 intro h
 have h0:=RU h
 have cI:=a6 fun e=>h0 (by rw[e,Nat.zero_mul])
 have dS:=aw fun e=>h0 (by rw[e,Nat.mul_zero])
 exact kg (lo:=E+F) (by omega) h
theorem RC (lt:a8→a8→Bool):∀(l:List a8) (m:a8),eD lt m l∈m::l
 |[],m=>by simp[eD]
 |y::aC,m=>by
  have h:=RC lt aC (if lt y m=true then y else m)
  simp only[eD,List.mem_cons]at h⊢
  split at h<;>rcases h with h|h<;>simp_all
theorem Iw (x y:bQ):(dp x y).lo∈kH x y∧(dp x y).hi∈kH x y:=⟨RC ..,RC ..⟩
theorem XZ {lo hi lo' hi':Int} {a b c d:a8} (a6:a.win lo hi) (aw:b.win lo hi) (ay:c.win lo' hi') (aD:d.win lo' hi'):∀z∈kH ⟨a,b⟩ ⟨c,d⟩,z.win (lo+lo') (hi+hi'):=by
 intro z bp
 simp only[kH,List.mem_cons,List.not_mem_nil,or_false]at bp
 rcases bp with rfl|rfl|rfl|rfl
 ·exact uR a6 ay
 ·exact uR a6 aD
 ·exact uR aw ay
 ·exact uR aw aD
theorem anR {lo hi lo' hi':Int} {a b c d:a8} (a6:a.win lo hi) (aw:b.win lo hi) (ay:c.win lo' hi') (aD:d.win lo' hi'):(dp ⟨a,b⟩ ⟨c,d⟩).lo.win (lo+lo') (hi+hi')∧(dp ⟨a,b⟩ ⟨c,d⟩).hi.win (lo+lo') (hi+hi'):=
 ⟨XZ a6 aw ay aD _ (Iw _ _).1,XZ a6 aw ay aD _ (Iw _ _).2⟩
theorem fW.add {E:Int} {a b:a8} (a6:fW E a) (aw:fW E b):fW E (dW a b):=RW a6 aw
theorem fW.flip {E:Int} {a:a8} (a6:fW E a):fW E (eQ a):=a6
theorem fW.shift {E:Int} {a:a8} (a6:fW E a) (k:Int):fW (E+k) (gi a k):=by
 unfold gi
 intro h
 have h0:=a6 (RU h)
 exact kg (lo:=E+k) (by omega) h
theorem Mx {lo hi:Int} {x:a8} (h:x.win lo hi) {n:Int} (aH:lo≤-n) (dT:0≤hi) (aJ:0≤n):(kI x n).win lo (hi+1):=by
 unfold kI
 split
 ·exact win.up h (Int.le_refl _) (by omega)
 ·rename_i ad
  refine sf fun hm=>⟨aH,?_⟩
  have aE:=Es x.m (-x.e - n).toNat
  have a6:=Cr (x.m / 2^(-x.e - n).toNat) (if x.neg=true then 1 else 0)
  have h1:a1 (if x.neg=true then 1 else 0)≤1:=by split<;>decide
  by_cases aw:a1 x.m≤(-x.e - n).toNat
  ·rw[Nat.div_eq_of_lt (ho.1 aw),Nat.zero_add]
   omega
  ·have h0:x.m≠0:=fun h=>aw (by rw[h,pC];omega)
   have hw:=h.2 h0
   omega
def jq (i:bQ) (n:Int):bQ:=⟨kI i.lo n,eQ (kI (eQ i.hi) n)⟩
def lG (i:bQ) (n:Int):Bool:=decide (e4 (gi (yw (jq i n)) n) d1≤0)
def ajm (x:a8):Prop:=x.win (-25000) 25000
def qe:br where
 pre:=fun ds=>ds=[]
 res:=fun ds=>a2 ⟨d1,d1⟩
theorem F8 (Γ:Env) (TY:Γ.has 199 qd) (awf:Γ.has 23 sT) (ds:List D) (h:qe.pre ds):bK Γ acd ace ds fun d=>d=qe.res ds:=by
 cases h
 have p1:qd.pre [.int .i64 1]:=rfl
 have bA:qd.res [.int .i64 1]= .agg [.bool d1.neg,.ints .i64 (au d1.m),.int .i64 d1.e]:=rfl
 have cq:sT.pre [.agg [.bool d1.neg,.ints .i64 (au d1.m),.int .i64 d1.e]]:=⟨d1,rfl,ahE⟩
 have bX:sT.res [.agg [.bool d1.neg,.ints .i64 (au d1.m),.int .i64 d1.e]]=a2 ⟨d1,d1⟩:=by
  have:fj (.agg [.bool d1.neg,.ints .i64 (au d1.m),.int .i64 d1.e])=d1:=ck _
  simp only[sT,this,tx]
 simp (maxSteps:=9^9) only[↓al,ak,simprocAttr,acd,ace,TY,awf,p1,bA,cq,bX,qe,a2]
def sD:br where
 pre:=fun ds=>∃(x:bQ) (n:Int),ds=[a2 x,.int .i64 n]∧ajm x.lo∧ajm x.hi∧0≤n∧n≤1000
 res:=fun ds=>match ds with
  |[p,.int _ n]=> .du [a2 (jq (hk p) n),.bool (lG (hk p) n)]
  |_=> .nilp
theorem F9 (Γ:Env) (ats:Γ.has 198 tX) (awg:Γ.has 85 mJ) (awh:Γ.has 30 vQ) (VJ:Γ.has 82 hs) (TY:Γ.has 199 qd) (awi:Γ.has 74 j0) (ds:List D) (h:sD.pre ds):bK Γ acC acD ds fun d=>d=sD.res ds:=by
 obtain⟨x,n,rfl,gb,g2,eS,kT⟩:=h
 have cf:dj x.lo:=win.up gb (by omega) (by omega)
 have cP:dj x.hi:=win.up g2 (by omega) (by omega)
 have f1:=Mx gb (n:=n) (by omega) (by omega) eS
 have f2:=Mx (tn g2) (n:=n) (by omega) (by omega) eS
 have f3:=tn f2
 have g:=uQ f3 (tn f1)
 have sh:=Ii g n
 have one:qd.pre [.int .i64 1]:=rfl
 simp (maxSteps:=2000000) only[↓al,ak,↓reduceIte,reduceCtorEq,Nat.reduceEqDiff,Nat.reduceLeDiff,Nat.reduceSub,Nat.reduceAdd,Int.reduceToNat,Nat.reducePow,Int.reducePow,Int.reduceLE,Int.reduceLT,IntKind.bits,acC,acD,sD,a2,dY,ats,tX,awg,mJ,awh,vQ,VJ,hs,TY,qd,awi,j0,ck,aV,jq,lG]
 exact⟨by decide,by decide,⟨_,_,rfl,cf,eS,kT⟩,by decide,by decide,⟨_,rfl,cP⟩,⟨eQ x.hi,_,rfl,RZ cP,eS,kT⟩,⟨kI (eQ x.hi) n,rfl,win.up f2 (by omega) (by omega)⟩,
  ⟨⟨kI x.lo n,eQ (kI (eQ x.hi) n)⟩,rfl,win.up f1 (by omega) (by omega),win.up f3 (by omega) (by omega)⟩,⟨yw ⟨kI x.lo n,eQ (kI (eQ x.hi) n)⟩,_,rfl,win.up g (by omega) (by omega),by omega,by omega⟩,
  ⟨gi (yw ⟨kI x.lo n,eQ (kI (eQ x.hi) n)⟩) n,d1,rfl,win.up sh (by omega) (by omega),ahE⟩,by decide⟩
structure dL where
 c:bQ
 s:bQ
def en (p:dL):D:= .agg [.bool p.c.lo.neg,aZ p.c.lo.m,.int .i64 p.c.lo.e,.bool p.c.hi.neg,aZ p.c.hi.m,.int .i64 p.c.hi.e,.bool p.s.lo.neg,aZ p.s.lo.m,.int .i64 p.s.lo.e,.bool p.s.hi.neg,aZ p.s.hi.m,.int .i64 p.s.hi.e]
def jH:D→dL
 | .agg [.bool a,.ints _ b,.int _ c,.bool d,.ints _ e,.int _ f,.bool g,.ints _ h,.int _ i,.bool j,.ints _ k,.int _ l]=>⟨⟨⟨a,val b,c⟩,⟨d,val e,f⟩⟩,⟨⟨g,val h,i⟩,⟨j,val k,l⟩⟩⟩
 |_=>⟨⟨⟨false,0,0⟩,⟨false,0,0⟩⟩,⟨⟨false,0,0⟩,⟨false,0,0⟩⟩⟩
theorem E1 (p:dL):jH (en p)=p:=by unfold en jH aZ;simp only[bT]
def tF (p q:dL) (w:Int):dL:=⟨qb (ev (dp p.c q.c) (dG (dp p.s q.s))) w,qb (ev (dp p.s q.c) (dp p.c q.s)) w⟩
def bQ.win (lo hi:Int) (x:bQ):Prop:=x.lo.win lo hi∧x.hi.win lo hi
def dL.win (lo hi:Int) (p:dL):Prop:=p.c.win lo hi∧p.s.win lo hi
theorem tz {lo hi lo' hi':Int} {x y:bQ} (aj:x.win lo hi) (hy:y.win lo' hi'):(dp x y).win (lo+lo') (hi+hi'):=anR aj.1 aj.2 hy.1 hy.2
theorem tA {lo hi:Int} {x y:bQ} (aj:x.win lo hi) (hy:y.win lo hi):(ev x y).win lo (hi+1):=⟨uQ aj.1 hy.1,uQ aj.2 hy.2⟩
theorem sb {lo hi:Int} {x:bQ} (aj:x.win lo hi):(dG x).win lo hi:=⟨tn aj.2,tn aj.1⟩
theorem aaM {lo hi:Int} {x:bQ} (aj:x.win lo hi) {n:Int} (aJ:0≤n):(qb x n).win lo (hi+1):=⟨Ry aj.1 n aJ _,Ry aj.2 n aJ _⟩
theorem gJ {lo hi lo' hi':Int} {x:bQ} (h:x.win lo hi) (l:lo'≤lo) (k:hi≤hi'):x.win lo' hi':=⟨win.up h.1 l k,win.up h.2 l k⟩
theorem R1 {lo hi lo' hi':Int} {p q:dL} (aQ:p.win lo hi) (aO:q.win lo' hi') {w:Int} (hw:0≤w):(tF p q w).win (lo+lo') (hi+hi'+2):=
 ⟨gJ (aaM (tA (tz aQ.1 aO.1) (sb (tz aQ.2 aO.2))) hw) (by omega) (by omega),gJ (aaM (tA (tz aQ.2 aO.1) (tz aQ.1 aO.2)) hw) (by omega) (by omega)⟩
def ri:br where
 pre:=fun ds=>∃(p q:dL) (w:Int),ds=[en p,en q,.int .i64 w]∧p.win (-24000) 24000∧q.win (-24000) 24000∧0≤w∧w≤1000
 res:=fun ds=>match ds with
  |[p,q,.int _ w]=>en (tF (jH p) (jH q) w)
  |_=> .nilp
theorem Ga (Γ:Env) (awj:Γ.has 38 uF) (Hl:Γ.has 32 jB) (VK:Γ.has 36 lF) (awk:Γ.has 40 vU) (ds:List D) (h:ri.pre ds):bK Γ adr ads ds fun d=>d=ri.res ds:=by
 obtain⟨p,q,w,rfl,aQ,aO,gp,gD⟩:=h
 have bO:ri.res [en p,en q,.int .i64 w]=en (tF p q w):=by simp only[ri,E1]
 rw[bO]
 have e0:=tz aQ.1 aO.1
 have gw:=tz aQ.2 aO.2
 have Aw:=tz aQ.2 aO.1
 have Ch:=tz aQ.1 aO.2
 have f2:=sb gw
 have cj:=tA e0 f2
 have ej:=tA Aw Ch
 simp (maxSteps:=9^9) only[↓al,ak,simprocAttr,adr,ads,en,a2,dY,tF,awj,uF,Hl,jB,VK,lF,awk,vU]
 have u:∀{lo hi:Int} {x:bQ},x.win lo hi→-25000≤lo→hi≤25000→HM x:=fun h l k=>gJ h l k
 have v:∀{lo hi:Int} {x:bQ},x.win lo hi→-50000≤lo→hi≤50000→k1 x:=fun h l k=>gJ h l k
 exact⟨⟨p.c,q.c,rfl,u aQ.1 (by omega) (by omega),u aO.1 (by omega) (by omega)⟩,⟨p.s,q.s,rfl,u aQ.2 (by omega) (by omega),u aO.2 (by omega) (by omega)⟩,
  ⟨dp p.s q.s,rfl,v gw (by omega) (by omega)⟩,⟨dp p.c q.c,dG (dp p.s q.s),rfl,v e0 (by omega) (by omega),v f2 (by omega) (by omega)⟩,
  ⟨ev (dp p.c q.c) (dG (dp p.s q.s)),w,rfl,v cj (by omega) (by omega),gp,by omega⟩,
  ⟨p.s,q.c,rfl,u aQ.2 (by omega) (by omega),u aO.1 (by omega) (by omega)⟩,⟨p.c,q.s,rfl,u aQ.1 (by omega) (by omega),u aO.2 (by omega) (by omega)⟩,
  ⟨dp p.s q.c,dp p.c q.s,rfl,v Aw (by omega) (by omega),v Ch (by omega) (by omega)⟩,
  ⟨ev (dp p.s q.c) (dp p.c q.s),w,rfl,v ej (by omega) (by omega),gp,by omega⟩⟩
def g0 (x:bQ) (w:Int):bQ:=if ik (gi x.lo (-1))<0 then ⟨⟨false,0,0⟩,⟨false,0,0⟩⟩else tE (g6 x (-1)) w
theorem RD {lo hi:Int} {x:bQ} (aj:x.win lo hi) (k:Int):(g6 x k).win (lo+k) (hi+k):=⟨Ii aj.1 k,Ii aj.2 k⟩
def rj:br where
 pre:=fun ds=>∃(x:bQ) (w:Int),ds=[a2 x,.ptr [.int .i64 w]]∧x.win (-40000) 40000∧0≤w∧w≤1000
 res:=fun ds=>match ds with
  |[p,.ptr [.int _ w]]=>a2 (g0 (hk p) w)
  |_=> .nilp
theorem Gb (Γ:Env) (ahF:Γ.has 34 sV) (ahG:Γ.has 20 rR) (ds:List D) (h:rj.pre ds):bK Γ TE TF ds fun d=>d=rj.res ds:=by
 obtain⟨x,w,rfl,aj,gp,gD⟩:=h
 have bO:rj.res [a2 x,.ptr [.int .i64 w]]=a2 (g0 x w):=by simp only[rj,a2,aZ,dY]
 rw[bO]
 have ayC:=RD aj (-1)
 have p1:sV.pre [a2 x,.int .i64 (-1)]:=⟨x,-1,rfl,gJ aj (by omega) (by omega),by omega,by omega⟩
 have bA:sV.res [a2 x,.int .i64 (-1)]=a2 (g6 x (-1)):=by simp only[sV,a2,aZ,dY]
 have cq:rR.pre [a2 (g6 x (-1)),.int .i64 w]:=⟨g6 x (-1),w,rfl,gJ ayC (by omega) (by omega),gp,gD⟩
 have bX:rR.res [a2 (g6 x (-1)),.int .i64 w]=sn (g6 x (-1)) w:=by simp only[rR,a2,aZ,dY]
 have aN:(g6 x (-1)).lo=gi x.lo (-1):=rfl
 have lN:au 0=[]:=by decide+kernel
 unfold g0 sn at*
 rw[aN]at bX
 by_cases aE:ik (gi x.lo (-1))<0
 ·rw[if_pos aE]at bX⊢
  obtain⟨y,hy⟩:∃y,y=g6 x (-1):=⟨_,rfl⟩
  rw[←hy]at cq bA bX
  unfold a2 aZ at p1 bA cq bX
  simp (maxSteps:=2000000) only[↓al,ak,↓reduceIte,reduceCtorEq,Nat.reduceEqDiff,Nat.reduceLeDiff,Nat.reduceSub,Nat.reduceAdd,Int.reduceToNat,Nat.reducePow,Int.reducePow,Int.reduceLE,Int.reduceLT,IntKind.bits,TE,TF,a2,ahF,p1,bA,ahG,cq,bX,lN]
  exact⟨by decide,by decide⟩
 ·rw[if_neg aE]at bX⊢
  obtain⟨y,hy⟩:∃y,y=g6 x (-1):=⟨_,rfl⟩
  obtain⟨z,bp⟩:∃z,z=tE y w:=⟨_,rfl⟩
  rw[←hy]at cq bA bX⊢
  rw[←bp]at bX⊢
  unfold a2 aZ at p1 bA cq bX
  simp (maxSteps:=2000000) only[↓al,ak,↓reduceIte,reduceCtorEq,Nat.reduceEqDiff,Nat.reduceLeDiff,Nat.reduceSub,Nat.reduceAdd,Int.reduceToNat,Nat.reducePow,Int.reducePow,Int.reduceLE,Int.reduceLT,IntKind.bits,TE,TF,a2,ahF,p1,bA,ahG,cq,bX,lN]
  exact⟨by decide,by decide⟩
def fq (e:Int):a8:=⟨false,1,e⟩
theorem VL (e:Int):mk false 1 e=fq e:=by
 have:b2 1=0:=Nz rfl
 unfold mk fq
 rw[if_neg (by decide),this,Nat.pow_zero,Nat.div_one]
 simp
theorem arl {lo hi e:Int} (h1:lo≤e) (h2:e+1≤hi):(fq e).win lo hi:=by
 have aw:a1 1=1:=by decide+kernel
 rw[←VL];exact sf (fun _=>⟨h1,by omega⟩)
def VM (i:bQ) (n:Int):Bool:=decide (i.lo=i.hi)||decide (e4 (yw (jq i n)) (fq (-n))≤0)
theorem CC {a b:Nat} (h:a≤b):(2:Int)^a∣2^b:=⟨2^(b - a),by rw[←Int.pow_add];congr 1;omega⟩
def eU (n:Nat) (v:Int):Int:=v / 2^(a1 v.natAbs - n)*2^(a1 v.natAbs - n)
def r4 (n:Nat) (s:Int):Prop:=(2:Int)^(a1 s.natAbs - n)∣s
theorem tp (t:Nat):(0:Int)<2^t:=Int.pow_pos (by decide)
theorem SV (n:Nat) (v:Int):eU n v≤v:=Int.ediv_mul_le v (Int.ne_of_gt (tp _))
theorem aaN {n:Nat} {v s:Int} (h:(2:Int)^(a1 v.natAbs - n)∣s) (l:s≤v):s≤eU n v:=by
 obtain⟨c,rfl⟩:=h
 unfold eU
 have aQ:=tp (a1 v.natAbs - n)
 have:c≤v / 2^(a1 v.natAbs - n):=by
  rw[Int.le_ediv_iff_mul_le aQ,Int.mul_comm];exact l
 rw[Int.mul_comm]
 exact Int.mul_le_mul_of_nonneg_right this (Int.le_of_lt aQ)
theorem Qp {a:Nat} (h:a≠0):2^(a1 a - 1)≤a:=by
 refine Nat.le_of_not_lt fun h1=> ?_
 have:=(ho (n:=a) (k:=a1 a - 1)).2 h1
 have:=qR h
 omega
theorem Sw {n:Nat} (aJ:1≤n) {v s:Int} (h:r4 n s) (l:s≤v):s≤eU n v:=by
 unfold r4 at h
 by_cases ae:a1 v.natAbs - n≤a1 s.natAbs - n
 ·exact aaN (Int.dvd_trans (CC ae) h) l
 ·have aw:a1 s.natAbs<a1 v.natAbs:=by omega
  by_cases aB:v<0
  ·have:=tm (show v.natAbs≤s.natAbs by omega)
   omega
  ·have h0:v.natAbs≠0:=fun e=>by rw[e,pC]at aw;omega
   have h1:=Qp h0
   have h2:=kG s.natAbs
   have aq:2^a1 s.natAbs≤2^(a1 v.natAbs - 1):=Nat.pow_le_pow_right (by decide) (by omega)
   have aK:((2^(a1 v.natAbs - 1):Nat):Int)≤eU n v:=by
    refine aaN ?_ (by omega)
    rw[Int.natCast_pow]
    exact CC (by omega)
   omega
theorem r4.neg {n:Nat} {s:Int} (h:r4 n s):r4 n (-s):=by
 unfold r4 at*
 rw[Int.natAbs_neg]
 exact Int.dvd_neg.2 h
def h7 (n:Nat) (up:Bool) (v:Int):Int:=if up=true then -(eU n (-v))else eU n v
theorem amk {m k:Nat} (bz:m % 2=1) (bh:1≤k) (a:Nat):((m:Int)*2^a) / 2^(k+a)=((m / 2^k:Nat):Int)∧(-(m:Int)*2^a) / 2^(k+a)= -((m / 2^k+1:Nat):Int):=by
 have aQ:(0:Int)<2^k:=tp k
 have ay:((2^k:Nat):Int)=2^k:=Int.natCast_pow 2 k
 have aD:=Nat.div_add_mod m (2^k)
 have aH:=Nat.mod_lt m (Nat.two_pow_pos k)
 have ar:m % 2^k≠0:=fun e=>by
  have:=Nat.mod_mod_of_dvd m (show 2∣2^k from ⟨2^(k - 1),by rw[←Nat.pow_succ'];congr 1;omega⟩)
  rw[e]at this
  omega
 rw[Int.pow_add,Int.mul_ediv_mul_of_pos_left _ _ (tp _),Int.mul_ediv_mul_of_pos_left _ _ (tp _)]
 refine⟨by rw[Int.natCast_ediv,ay],?_⟩
 refine((Int.ediv_emod_unique aQ (r:=((2^k - m % 2^k:Nat):Int)) (q:= -((m / 2^k+1:Nat):Int))).2 ⟨?_,by omega,by omega⟩).1
 rw[←ay,Int.mul_neg,←Int.natCast_mul,Nat.mul_add,Nat.mul_one]
 omega
theorem ali (n:Nat) (v:Int):eU n (-v)=(-v) / 2^(a1 v.natAbs - n)*2^(a1 v.natAbs - n):=by
 unfold eU;rw[Int.natAbs_neg]
theorem SW {n:Nat} {E:Int} {d:a8} (ok:d.ok) (l:fW E d) (up:Bool):(gM d n up).V E=h7 n up (d.V E):=by
 by_cases h0:d.m=0
 ·have:gM d n up=d:=by unfold gM;rw[if_pos (by rw[h0,pC];omega)]
  rw[this,lZ h0]
  unfold h7 eU
  cases up<;>simp
 ·have le:=l h0
  have bz:=ok.2 h0
  unfold h7
  rw[ali]
  unfold eU
  rw[Zq,pE h0]
  unfold gM
  by_cases ad:(a1 d.m:Int) - n≤0
  ·rw[if_pos ad]
   have aD:(2:Int)^(a1 d.m+(d.e - E).toNat - n)∣d.V E:=by
    unfold a8.V
    exact Int.dvd_trans (CC (by omega)) (Int.dvd_mul_left _ _)
   rw[Int.ediv_mul_cancel aD,Int.ediv_mul_cancel (Int.dvd_neg.2 aD),Int.neg_neg]
   split<;>rfl
  ·rw[if_neg ad]
   obtain⟨k,cE⟩:∃k:Nat,(a1 d.m:Int) - n=k:=⟨a1 d.m - n,by omega⟩
   have bh:1≤k:=by omega
   rw[cE,su _ _ (by omega),show (d.e+(k:Int) - E).toNat=k+(d.e - E).toNat by omega,show a1 d.m+(d.e - E).toNat - n=k+(d.e - E).toNat by omega,Int.toNat_natCast]
   obtain⟨f1,f2⟩:=amk bz bh (d.e - E).toNat
   unfold a8.V
   cases atb:d.neg with
   |false=>
    have e:dQ false d.m=(d.m:Int):=rfl
    rw[Int.neg_mul]at f2
    rw[e,f1,f2]
    cases up
    ·simp[dQ]
    ·simp[dQ,Int.neg_mul]
   |true=>
    have e:dQ true d.m= -(d.m:Int):=rfl
    have f3: -(-(d.m:Int)*2^(d.e - E).toNat)=(d.m:Int)*2^(d.e - E).toNat:=by rw[Int.neg_mul,Int.neg_neg]
    rw[e,f3,f1,f2]
    cases up
    ·simp[dQ]
    ·simp[dQ,Int.neg_mul]
theorem fW.cut {E:Int} {d:a8} (l:fW E d) (n:Nat) (up:Bool):fW E (gM d n up):=by
 unfold gM
 split
 ·exact l
 ·rename_i ad
  by_cases h0:d.m=0
  ·rw[h0,pC]at ad
   omega
  ·have:=l h0
   exact kg (lo:=E) (by omega)
theorem R2 (n:Nat):eU n 0=0:=by unfold eU;simp
theorem apo (n:Nat):r4 n 0:=Int.dvd_zero _
theorem anS {n:Nat} (v:Int):h7 n false v≤v:=by unfold h7;rw[if_neg (by decide)];exact SV n v
theorem aaO {n:Nat} (v:Int):v≤h7 n true v:=by
 unfold h7;rw[if_pos rfl]
 have:=SV n (-v)
 omega
theorem Eb (M:Nat):(a7 M*a7 M=M∧cU M=2*a7 M)∨(a7 M*a7 M<M∧cU M=2*a7 M+1):=by
 have:=(oL M).1
 unfold cU
 by_cases h:a7 M*a7 M<M
 ·exact Or.inr ⟨h,if_pos h⟩
 ·exact Or.inl ⟨by omega,if_neg h⟩
theorem apq {n M:Nat} (h:2^(2*n+3)≤M):2^(n+1)≤a7 M:=by
 refine Nat.le_of_not_lt fun h1=> ?_
 have h2:=(oL M).2
 have aq:(a7 M+1)*(a7 M+1)≤2^(n+1)*2^(n+1):=Nat.mul_le_mul h1 h1
 rw[←Nat.pow_add]at aq
 have aK:2^(n+1+(n+1))<2^(2*n+3):=Nat.pow_lt_pow_right (by decide) (by omega)
 omega
theorem J1 (c u:Int):c*u*(c*u)=c*c*(u*u):=by
 rw[Int.mul_assoc,Int.mul_left_comm u,←Int.mul_assoc c c]
theorem ha {a b:Int} (h0:0≤a) (h:a≤b):a*a≤b*b:=Int.mul_le_mul h h h0 (by omega)
theorem Zv {n p:Nat} {s:Int} (h0:0≤s) (h:r4 n s) (aQ:¬(2:Int)^p∣s):s<2^(n+p):=by
 have h1:a1 s.natAbs - n<p:=Nat.lt_of_not_le fun h2=>aQ (Int.dvd_trans (CC h2) h)
 have h2:s.natAbs<2^(n+p):=by rw[←ho];omega
 have aq:((2^(n+p):Nat):Int)=2^(n+p):=Int.natCast_pow 2 _
 omega
section
set_option linter.unusedSectionVars false
variable {n p M:Nat} (aJ:1≤n) (cp:M=0∨2^(2*n+3)≤M)
include aJ cp
theorem SX (h:M≠0):(2:Int)^(n+2)≤(cU M:Int):=by
 have aw:=apq (cp.resolve_left h)
 have aq:((2^(n+2):Nat):Int)=2^(n+2):=Int.natCast_pow 2 _
 have aK:2^(n+2)=2*2^(n+1):=by rw[Nat.pow_succ];omega
 rcases Eb M with ⟨_,e⟩|⟨_,e⟩<;>omega
theorem abo (v:Int) (aB:v.natAbs=cU M*2^p):∃c,eU n v=c*2*2^p:=by
 by_cases h:M=0
 ·subst h
  have:v=0:=by rw[Cu,Nat.zero_mul]at aB;omega
  exact⟨0,by rw[this,R2];simp⟩
 ·have aw:=SX aJ cp h
  have aq:((2^(n+2):Nat):Int)=2^(n+2):=Int.natCast_pow 2 _
  have cy:cU M≠0:=by
   have:=Nat.two_pow_pos (n+2)
   omega
  have aK:n+3≤a1 (cU M):=by
   refine Nat.le_of_not_lt fun aG=> ?_
   have:a1 (cU M)≤n+2:=by omega
   rw[ho]at this
   omega
  have aG:(2:Int)^(p+1)∣eU n v:=by
   unfold eU
   rw[aB,pE cy]
   exact Int.dvd_trans (CC (by omega)) (Int.dvd_mul_left _ _)
  obtain⟨c,ay⟩:=aG
  exact⟨c,by rw[ay,Int.pow_succ,Int.mul_comm,Int.mul_comm (2^p),Int.mul_assoc]⟩
theorem anT:0≤eU n (cU M*2^p)∧eU n (cU M*2^p)*eU n (cU M*2^p)≤4*M*(2^p*2^p)∧∀s,0≤s→r4 n s→s*s≤4*M*(2^p*2^p)→s≤eU n (cU M*2^p):=by
 have hu:(0:Int)<2^p:=tp p
 have PR:(0:Int)<2^p*2^p:=Int.mul_pos hu hu
 have cy:(0:Int)≤cU M*2^p:=Int.mul_nonneg (by omega) (by omega)
 have h0:0≤eU n (cU M*2^p):=Sw aJ (apo n) cy
 refine⟨h0,?_,?_⟩
 ·obtain⟨c,ay⟩:=abo (p:=p) aJ cp (cU M*2^p) (by rw[Int.natAbs_mul,Int.natAbs_pow];rfl)
  have aH:=SV n (cU M*2^p)
  rw[ay]at aH h0⊢
  have h1:=Int.le_of_mul_le_mul_right aH hu
  have h2:0≤c*2:=by
   exact Int.le_of_mul_le_mul_right (b:=0) (by rw[Int.zero_mul];exact h0) hu
  have aq:c≤a7 M:=by rcases Eb M with ⟨_,e⟩|⟨_,e⟩<;>omega
  rw[J1,J1]
  refine Int.mul_le_mul_of_nonneg_right ?_ (by omega)
  have aK:=ha (by omega) aq
  have aG:=(oL M).1
  have aM:((a7 M*a7 M:Nat):Int)=(a7 M:Int)*(a7 M:Int):=Int.natCast_mul _ _
  omega
 ·intro s aE aw aO
  refine Sw aJ aw (Int.not_lt.1 fun bl=> ?_)
  by_cases aD:(2:Int)^p∣s
  ·obtain⟨c,rfl⟩:=aD
   rw[Int.mul_comm (2^p) c]at aE aO bl
   rw[J1]at aO
   have h1:=Int.le_of_mul_le_mul_right aO PR
   have h2:=Int.lt_of_mul_lt_mul_right bl (by omega)
   have aq:((a7 M*a7 M:Nat):Int)=(a7 M:Int)*(a7 M:Int):=Int.natCast_mul _ _
   have aK:=(oL M).2
   have aG:(((a7 M+1)*(a7 M+1):Nat):Int)=((a7 M:Int)+1)*((a7 M:Int)+1):=by rw[Int.natCast_mul];rfl
   rcases Eb M with ⟨aN,aX⟩|⟨aN,aX⟩
   ·have aM:=ha (a:=2*(a7 M:Int)+1) (b:=c) (by omega) (by omega)
    have aS:(2*(a7 M:Int)+1)*(2*(a7 M:Int)+1)=4*((a7 M:Int)*(a7 M:Int))+4*(a7 M:Int)+1:=by
     simp only[Int.mul_add,Int.add_mul,Int.mul_one,Int.one_mul,Int.mul_assoc,Int.mul_left_comm _ 2]
     omega
    omega
   ·have aM:=ha (a:=2*((a7 M:Int)+1)) (b:=c) (by omega) (by omega)
    have aS:(2*((a7 M:Int)+1))*(2*((a7 M:Int)+1))=4*(((a7 M:Int)+1)*((a7 M:Int)+1)):=by
     rw[Int.mul_assoc,Int.mul_left_comm _ 2];omega
    omega
  ·by_cases h:M=0
   ·subst h
    rw[Cu]at bl
    have:s*s≤0:=by simpa using aO
    have h2:1*s≤s*s:=Int.mul_le_mul_of_nonneg_right (by omega) aE
    omega
   ·have fl:=SX aJ cp h
    have h1:=Zv aE aw aD
    have h2:(2:Int)^(n+2)*2^p≤cU M*2^p:=Int.mul_le_mul_of_nonneg_right fl (by omega)
    rw[←Int.pow_add]at h2
    have aq:(2:Int)^(n+p)≤2^(n+2+p):=by
     have:=Nat.pow_le_pow_right (show 2>0 by decide) (show n+p≤n+2+p by omega)
     have aN:((2^(n+p):Nat):Int)=2^(n+p):=Int.natCast_pow 2 _
     have aX:((2^(n+2+p):Nat):Int)=2^(n+2+p):=Int.natCast_pow 2 _
     omega
    omega
theorem aml:0≤h7 n true (cU M*2^p)∧4*M*(2^p*2^p)≤h7 n true (cU M*2^p)*h7 n true (cU M*2^p)∧∀s,0≤s→r4 n s→4*M*(2^p*2^p)≤s*s→h7 n true (cU M*2^p)≤s:=by
 have hu:(0:Int)<2^p:=tp p
 have PR:(0:Int)<2^p*2^p:=Int.mul_pos hu hu
 have cy:(0:Int)≤cU M*2^p:=Int.mul_nonneg (by omega) (by omega)
 have ahH:=aaO (n:=n) (cU M*2^p)
 have h0:0≤h7 n true (cU M*2^p):=by omega
 refine⟨h0,?_,?_⟩
 ·obtain⟨c',cZ⟩:=abo (p:=p) aJ cp (-(cU M*2^p)) (by rw[Int.natAbs_neg,Int.natAbs_mul,Int.natAbs_pow];rfl)
  have ay:h7 n true (cU M*2^p)=(-c')*2*2^p:=by
   unfold h7;rw[if_pos rfl,cZ,Int.neg_mul,Int.neg_mul]
  generalize -c'=c at ay
  rw[ay]at ahH h0⊢
  have h1:=Int.le_of_mul_le_mul_right ahH hu
  rw[J1]
  refine Int.mul_le_mul_of_nonneg_right ?_ (by omega)
  rcases Eb M with ⟨aN,aX⟩|⟨aN,aX⟩
  ·have aq:((a7 M*a7 M:Nat):Int)=(a7 M:Int)*(a7 M:Int):=Int.natCast_mul _ _
   have aK:=ha (a:=2*(a7 M:Int)) (b:=c*2) (by omega) (by omega)
   have aG:2*(a7 M:Int)*(2*(a7 M:Int))=4*((a7 M:Int)*(a7 M:Int)):=by
    rw[Int.mul_assoc,Int.mul_left_comm _ 2];omega
   omega
  ·have aq:=(oL M).2
   have aG:(((a7 M+1)*(a7 M+1):Nat):Int)=((a7 M:Int)+1)*((a7 M:Int)+1):=by rw[Int.natCast_mul];rfl
   have aK:=ha (a:=2*((a7 M:Int)+1)) (b:=c*2) (by omega) (by omega)
   have aS:(2*((a7 M:Int)+1))*(2*((a7 M:Int)+1))=4*(((a7 M:Int)+1)*((a7 M:Int)+1)):=by
    rw[Int.mul_assoc,Int.mul_left_comm _ 2];omega
   omega
 ·intro s aE aw aO
  have key:cU M*2^p≤s:=by
   refine Int.not_lt.1 fun bl=> ?_
   by_cases aD:(2:Int)^p∣s
   ·obtain⟨c,rfl⟩:=aD
    rw[Int.mul_comm (2^p) c]at aE aO bl
    rw[J1]at aO
    have h1:=Int.le_of_mul_le_mul_right aO PR
    have h2:=Int.lt_of_mul_lt_mul_right bl (by omega)
    have dr:0≤c:=by
     exact Int.le_of_mul_le_mul_right (b:=0) (by rw[Int.zero_mul];exact aE) hu
    have aq:((a7 M*a7 M:Nat):Int)=(a7 M:Int)*(a7 M:Int):=Int.natCast_mul _ _
    rcases Eb M with ⟨aN,aX⟩|⟨aN,aX⟩
    ·have aM:=ha (a:=c) (b:=2*(a7 M:Int) - 1) dr (by omega)
     have aS:(2*(a7 M:Int) - 1)*(2*(a7 M:Int) - 1)=4*((a7 M:Int)*(a7 M:Int)) - 4*(a7 M:Int)+1:=by
      simp only[Int.mul_sub,Int.sub_mul,Int.mul_one,Int.one_mul,Int.mul_assoc,Int.mul_left_comm _ 2]
      omega
     omega
    ·have aM:=ha (a:=c) (b:=2*(a7 M:Int)) dr (by omega)
     have aS:2*(a7 M:Int)*(2*(a7 M:Int))=4*((a7 M:Int)*(a7 M:Int)):=by
      rw[Int.mul_assoc,Int.mul_left_comm _ 2];omega
     omega
   ·by_cases h:M=0
    ·subst h
     rw[Cu]at bl
     simp at bl
     omega
    ·have hm:=cp.resolve_left h
     have h1:=Zv aE aw aD
     have h2:=ha aE (Int.le_of_lt h1)
     have aq:(2:Int)^(n+p)*2^(n+p)=2^(2*n)*(2^p*2^p):=by
      rw[←Int.pow_add,←Int.pow_add,←Int.pow_add];congr 1;omega
     rw[aq]at h2
     have aK:=Int.le_of_mul_le_mul_right (Int.le_trans aO h2) PR
     have aG:((2^(2*n):Nat):Int)=2^(2*n):=Int.natCast_pow 2 _
     have aM:2^(2*n)<2^(2*n+3):=Nat.pow_lt_pow_right (by decide) (by omega)
     omega
  unfold h7
  rw[if_pos rfl]
  have:=Sw aJ aw.neg (show -s≤-(cU M*2^p)by omega)
  omega
end
def Bk (x:a8) (n:Nat):Nat:=x.m*2^(gI x n).toNat
def Jq (x:a8) (n:Nat) (E:Int):Nat:=((x.e - gI x n) / 2 - 1 - E).toNat
theorem Rf (x:a8) (n:Nat):Bk x n=0∨2^(2*n+3)≤Bk x n:=by
 unfold Bk
 by_cases h0:x.m=0
 ·left;rw[h0,Nat.zero_mul]
 ·right
  have aw:=pE h0 (gI x n).toNat
  have ad:2*(n:Int)+4 - a1 x.m≤gI x n:=by unfold gI;omega
  have h1:x.m*2^(gI x n).toNat≠0:=Nat.mul_ne_zero h0 (Nat.ne_of_gt (Nat.two_pow_pos _))
  have:=Qp h1
  refine Nat.le_trans (Nat.pow_le_pow_right (by decide) ?_) this
  omega
section
variable {x:a8} {n:Nat} {E:Int} (aJ:1≤n) (eO:E+1≤(x.e - gI x n) / 2)
include eO
theorem aex:fW E (mk false (cU (x.m*2^(gI x n).toNat)) ((x.e - gI x n) / 2 - 1)):=kg (lo:=E) (by omega)
theorem Z8 (up:Bool):fW E (eA x n up):=(aex eO).cut n up
include aJ
theorem NA (up:Bool):(eA x n up).V E=h7 n up (cU (Bk x n)*2^Jq x n E):=by
 unfold eA
 rw[SW (oV ..) (aex eO),su _ _ (by omega)]
 rfl
theorem Z9 (aj:fW (2*E) x) (aQ:x.neg=false):x.V (2*E)=4*Bk x n*(2^Jq x n E*2^Jq x n E):=by
 have h1:=Ij x n
 have h2:=(Ia (x:=x) (n:=n) (by omega)).1
 unfold a8.V Bk Jq
 rw[aQ]
 show (x.m:Int)*_=_
 rw[←Int.pow_add,Int.natCast_mul,Int.natCast_pow,←Int.mul_assoc,Int.mul_comm 4,Int.mul_assoc,Int.mul_assoc,show (4:Int)=2^2 by rfl]
 congr 1
 show (2:Int)^_=((2:Nat):Int)^_*_
 rw[show ((2:Nat):Int)=2 from rfl,←Int.pow_add,←Int.pow_add]
 congr 1
 omega
theorem amm (aj:fW (2*E) x) (aQ:x.neg=false):
 (0≤(eA x n false).V E∧(eA x n false).V E*(eA x n false).V E≤x.V (2*E)∧∀s,0≤s→r4 n s→s*s≤x.V (2*E)→s≤(eA x n false).V E)∧
 (0≤(eA x n true).V E∧x.V (2*E)≤(eA x n true).V E*(eA x n true).V E∧∀s,0≤s→r4 n s→x.V (2*E)≤s*s→(eA x n true).V E≤s):=by
 rw[NA aJ eO,NA aJ eO,Z9 aJ eO aj aQ]
 exact⟨anT aJ (Rf x n),aml aJ (Rf x n)⟩
end
theorem aac {lo hi lo' hi':Int} {x:a8} {n:Int} (h:x.win lo hi) (aJ:0≤n) (l:2*lo'≤lo - 2*n - 8) (k:hi+6≤2*hi') (up:Bool):(eA x n up).win lo' hi':=by
 unfold eA
 have:hi'=(hi' - 1)+1:=by omega
 rw[this]
 refine Ry (hi:=hi' - 1) (sf fun cy=> ?_) n (by omega) up
 have h0:x.m≠0:=fun e=>cy (by rw[e,Nat.zero_mul,Cu])
 have hw:=h.2 h0
 have ad:=Ia (x:=x) (n:=n) (by omega)
 have he:=Ij x n
 have aw:=Mw (x.m*2^(gI x n).toNat)
 rw[pE h0]at aw
 omega
theorem aaP {lo hi:Int} :(⟨⟨false,0,0⟩,⟨false,0,0⟩⟩:bQ).win lo hi:=by
 have:(⟨false,0,0⟩:a8).win lo hi:=⟨⟨fun _=>⟨rfl,rfl⟩,fun h=>absurd rfl h⟩,fun h=>absurd rfl h⟩
 exact⟨this,this⟩
theorem R3 {lo hi lo' hi':Int} {x:bQ} {n:Int} (h:x.win lo hi) (aJ:0≤n) (l:2*lo'≤lo - 2*n - 9) (k:hi+5≤2*hi'):(g0 x n).win lo' hi':=by
 unfold g0
 split
 ·exact aaP
 ·have s:=RD h (-1)
  exact⟨aac s.1 aJ (by omega) (by omega) _,aac s.2 aJ (by omega) (by omega) _⟩
def i1:bQ:=⟨d1,d1⟩
theorem Gc {lo hi:Int} (l:lo≤0) (k:1≤hi):i1.win lo hi:=by
 have:d1.win lo hi:=arl (e:=0) l (by omega)
 exact⟨this,this⟩
def aB (w:Int):Nat→dL
 |0=>⟨g0 i1 w,g0 i1 w⟩
 |k+1=>⟨g0 (ev i1 (aB w k).c) w,g0 (ev i1 (dG (aB w k).c)) w⟩
theorem BF {w:Int} (hw:0≤w):∀k,(aB w k).win (-(2*w+16)) 8
 |0=>by
  have:(g0 i1 w).win (-(2*w+16)) 8:=R3 (Gc (lo:=0) (hi:=1) (by omega) (by omega)) hw (by omega) (by omega)
  exact⟨this,this⟩
 |k+1=>by
  have h:=(BF hw k).1
  have o:i1.win (-(2*w+16)) 8:=Gc (by omega) (by omega)
  exact⟨R3 (tA o h) hw (by omega) (by omega),R3 (tA o (sb h)) hw (by omega) (by omega)⟩
def rT (K Q w:Int):Nat→Nat→dL→dL
 |0,_,p=>p
 |k+1,q,p=>rT K Q w k (q+1) (if (K.toNat / 2^(Q.toNat - q)) % 2=1 then tF p (aB w (q - 3)) w else p)
def p0:dL:=⟨i1,⟨⟨false,0,0⟩,⟨false,0,0⟩⟩⟩
theorem yx {lo hi lo' hi':Int} {x:dL} (h:x.win lo hi) (l:lo'≤lo) (k:hi≤hi'):x.win lo' hi':=⟨gJ h.1 l k,gJ h.2 l k⟩
theorem abp {K Q w:Int} (hw:0≤w):∀(k q:Nat) {p:dL} {lo hi:Int},p.win lo hi→(rT K Q w k q p).win (lo - k*(2*w+16)) (hi+10*k)
 |0,_,_,_,_,h=>yx h (by omega) (by omega)
 |k+1,q,p,lo,hi,h=>by
  unfold rT
  have e:lo - ((k+1:Nat):Int)*(2*w+16)=lo+ -(2*w+16) - k*(2*w+16):=by
   rw[Int.natCast_add,Int.add_mul];omega
  rw[e]
  refine yx (abp hw k (q+1) (lo:=lo+ -(2*w+16)) (hi:=hi+8+2) ?_) (Int.le_refl _) (by omega)
  split
  ·exact R1 h (BF hw _) hw
  ·exact yx h (by omega) (by omega)
theorem T0 {lo hi:Int} (l:lo≤0) (k:1≤hi):p0.win lo hi:=⟨Gc l k,aaP⟩
def rest (K Q w:Int):dL:=rT K Q w (Q - 2).toNat 3 p0
def dh (a:Nat) (w:Int):dL:=
 let r:=rest (b5 (bV a)) (a0 (bV a)) w
 let e:=ca a
 let r:=if e=1∨e=2∨e=5∨e=6 then ⟨r.s,r.c⟩else r
 let r:=if 2≤e∧e≤5 then ⟨dG r.c,r.s⟩else r
 if 4≤e then ⟨r.c,dG r.s⟩else r
theorem Sx {K Q w:Int} (h0:Q≤14) (hw:0≤w) (gD:w≤800):(rest K Q w).win (-20000) 200:=by
 unfold rest
 have h:=abp (K:=K) (Q:=Q) hw (Q - 2).toNat 3 (T0 (lo:=0) (hi:=1) (by omega) (by omega))
 have h1:((Q - 2).toNat:Int)*(2*w+16)≤12*(2*w+16):=Int.mul_le_mul_of_nonneg_right (by omega) (by omega)
 exact yx h (by omega) (by omega)
theorem zD {Γ:Env} {c:a3} {Q:fi→St→Prop} {σ:St} (K:St→Prop) (h:cb Γ c (fun e s=>match e with| .normal=>K s|_=>False) σ) (aw:∀s,K s→Q .normal s):cb Γ c Q σ:=
 kb c (fun e s aE=>by
  cases e with
  |normal=>exact aw s aE
  |exit j=>exact aE.elim
  |ret=>exact aE.elim) h
def tY:br where
 pre:=fun ds=>∃(a:Nat) (w:Int),ds=[jl a,.int .i64 w]∧a≤144115188075855872∧a0 a≤14∧0≤w∧w≤800
 res:=fun ds=>match ds with
  |[.agg [.int _ K,.int _ Q],.int _ w]=>en (rest K Q w)
  |_=> .nilp
def rk:br where
 pre:=fun ds=>∃(K:Int) (Q:Nat) (w:Int),ds=[cd K Q,.int .i64 w]∧Q≤60∧a0 (bV (an K Q))≤14∧0≤w∧w≤800
 res:=fun ds=>match ds with
  |[.agg [.int _ K,.int _ Q],.int _ w]=>en (dh (an K Q.toNat) w)
  |_=> .nilp
def h8 (k:Nat) (p:dL) (s:St):Prop:=s.af k= .box k 0∧s.aA k=some ⟨false,false,.cells [.d (.bool p.c.lo.neg),.d (.ints .i64 (au p.c.lo.m)),.d (.int .i64 p.c.lo.e),.d (.bool p.c.hi.neg),.d (.ints .i64 (au p.c.hi.m)),.d (.int .i64 p.c.hi.e),.d (.bool p.s.lo.neg),.d (.ints .i64 (au p.s.lo.m)),.d (.int .i64 p.s.lo.e),.d (.bool p.s.hi.neg),.d (.ints .i64 (au p.s.hi.m)),.d (.int .i64 p.s.hi.e)]⟩
def ig (s:St):Prop:=s.af 4= .box 4 0∧s.aA 4=some ⟨false,false,.cells [.d (.bool false),.d (.ints .i64 []),.d (.int .i64 0),.d (.bool false),.d (.ints .i64 []),.d (.int .i64 0),.d (.bool false),.d (.ints .i64 []),.d (.int .i64 0),.d (.bool false),.d (.ints .i64 []),.d (.int .i64 0)]⟩
theorem Gd (Γ:Env) (T1:Γ.has 151 ln) (att:Γ.has 200 tY) (T2:Γ.has 152 mf) (Hl:Γ.has 32 jB) (ds:List D) (h:rk.pre ds):bK Γ adg adh ds fun d=>d=rk.res ds:=by
 obtain⟨K,Q,w,rfl,cw,aO,gp,gD⟩:=h
 have bO:rk.res [cd K Q,.int .i64 w]=en (dh (an K Q) w):=by simp only[rk,cd,Int.toNat_natCast]
 rw[bO]
 obtain⟨a,a6⟩:∃a,a=an K Q:=⟨_,rfl⟩
 have b4:a<1152921504606846976:=a6▸ft K Q
 have p1:ln.pre [.agg [.int .i64 K,.int .i64 Q]]:=⟨K,Q,rfl,cw⟩
 have bA:ln.res [.agg [.int .i64 K,.int .i64 Q]]= .agg [.int .i64 (ca a),.int .i64 (b5 (bV a)),.int .i64 (a0 (bV a))]:=by simp only[ln,Int.toNat_natCast,←a6];rfl
 rw[←a6]at aO⊢
 have cq:tY.pre [.agg [.int .i64 (b5 (bV a)),.int .i64 (a0 (bV a))],.int .i64 w]:=⟨bV a,w,rfl,CV a,aO,gp,gD⟩
 have bX:tY.res [.agg [.int .i64 (b5 (bV a)),.int .i64 (a0 (bV a))],.int .i64 w]=en (rest (b5 (bV a)) (a0 (bV a)) w):=rfl
 have ar:=Sx (K:=b5 (bV a)) (Q:=a0 (bV a)) (by omega) gp gD
 unfold dh
 obtain⟨r,Ci⟩:∃r,r=rest (b5 (bV a)) (a0 (bV a)) w:=⟨_,rfl⟩
 rw[←Ci]at bX ar⊢
 have eO:=Bj b4
 obtain⟨e,he⟩:∃e,e=ca a:=⟨_,rfl⟩
 rw[←he]at bA eO⊢
 obtain⟨bM,fl⟩:∃b,b=decide ((e:Int)=1∨(e:Int)=2∨(e:Int)=5∨(e:Int)=6):=⟨_,rfl⟩
 obtain⟨aW,jX⟩:∃b,b=decide (2≤(e:Int)∧(e:Int)≤5):=⟨_,rfl⟩
 obtain⟨a5,DK⟩:∃b,b=decide (4≤(e:Int)):=⟨_,rfl⟩
 have fK:mf.pre [.int .i64 e]:=⟨e,rfl,by omega,by omega⟩
 have eJ:mf.res [.int .i64 e]= .du [.bool bM,.bool aW,.bool a5]:=by rw[fl,jX,DK];rfl
 have bR:(e=1∨e=2∨e=5∨e=6)↔bM=true:=by rw[fl,decide_eq_true_iff];omega
 have bS:(2≤e∧e≤5)↔aW=true:=by rw[jX,decide_eq_true_iff];omega
 have hj:(4≤e)↔a5=true:=by rw[DK,decide_eq_true_iff];omega
 simp only[bR,bS,hj]
 clear bR bS hj fl jX DK
 obtain⟨u,hu⟩:∃u:dL,u=if bM=true then ⟨r.s,r.c⟩else r:=⟨_,rfl⟩
 have Cj:u.win (-20000) 200:=by rw[hu];split;exact⟨ar.2,ar.1⟩;exact ar
 obtain⟨v,aB⟩:∃v:dL,v=if aW=true then ⟨dG u.c,u.s⟩else u:=⟨_,rfl⟩
 have LP:v.win (-20000) 200:=by rw[aB];split;exact⟨sb Cj.1,Cj.2⟩;exact Cj
 rw[←hu,←aB]
 unfold en aZ at bX
 rw[gx]
 unfold adg adh
 refine bC (fun s=>s.af 1= .d (.int .i64 w)∧s.af 2= .box 2 0∧s.aA 2=some ⟨false,false,.cells [.d (.int .i64 K),.d (.int .i64 Q)]⟩∧ig s) ?_ ?_
 ·simp (maxSteps:=9^9) only[↓al,ak,simprocAttr,cd,ig]
 rintro s ⟨h1,h2,bS,aK,a9⟩
 refine bC (fun s=>s.af 1= .d (.int .i64 w)∧s.af 5= .box 5 0∧s.aA 5=some ⟨false,false,.cells [.d (.int .i64 e),.d (.int .i64 (b5 (bV a))),.d (.int .i64 (a0 (bV a)))]⟩∧ig s) ?_ ?_
 ·simp (maxSteps:=9^9) only[↓al,ak,simprocAttr,h1,h2,bS,aK,a9,ig,T1,p1,bA]
 rintro s ⟨h1,aG,bq,aK,a9⟩
 refine bC (fun s=>s.af 5= .box 5 0∧s.aA 5=some ⟨false,false,.cells [.d (.int .i64 e),.d (.int .i64 (b5 (bV a))),.d (.int .i64 (a0 (bV a)))]⟩∧ig s∧h8 6 r s) ?_ ?_
 ·simp (maxSteps:=9^9) only[↓al,ak,simprocAttr,h1,aG,bq,aK,a9,ig,h8,att,cq,bX]
 rintro s ⟨aG,bq,⟨aK,a9⟩,aM,aY⟩
 refine bC (fun s=>s.af 7= .d (.bool bM)∧s.af 8= .d (.bool aW)∧s.af 9= .d (.bool a5)∧ig s∧h8 6 r s) ?_ ?_
 ·simp (maxSteps:=9^9) only[↓al,ak,simprocAttr,aG,bq,aK,a9,aM,aY,ig,h8,T2,fK,eJ]
 rintro s ⟨aS,bn,bH,⟨aK,a9⟩,aM,aY⟩
 refine bC (fun s=>s.af 8= .d (.bool aW)∧s.af 9= .d (.bool a5)∧ig s∧h8 6 u s) ?_ ?_
 ·rw[hu]
  cases bM<;>simp (maxSteps:=9^9) only[↓al,ak,simprocAttr,aS,bn,bH,aK,a9,aM,aY,ig,h8,Bool.false_eq_true]
 rintro s ⟨bn,bH,⟨aK,a9⟩,aM,aY⟩
 refine bC (fun s=>s.af 9= .d (.bool a5)∧ig s∧h8 6 v s) ?_ ?_
 ·rw[aB]
  have jJ:jB.pre [.agg [.bool u.c.lo.neg,.ints .i64 (au u.c.lo.m),.int .i64 u.c.lo.e,.bool u.c.hi.neg,.ints .i64 (au u.c.hi.m),.int .i64 u.c.hi.e]]:=⟨u.c,rfl,gJ Cj.1 (by omega) (by omega)⟩
  have hT:jB.res [.agg [.bool u.c.lo.neg,.ints .i64 (au u.c.lo.m),.int .i64 u.c.lo.e,.bool u.c.hi.neg,.ints .i64 (au u.c.hi.m),.int .i64 u.c.hi.e]]=a2 (dG u.c):=by simp only[jB,dY]
  unfold a2 aZ at hT
  cases aW<;>simp (maxSteps:=9^9) only[↓al,ak,simprocAttr,bn,bH,aK,a9,aM,aY,ig,h8,Hl,jJ,hT,Bool.false_eq_true]
 rintro s ⟨bH,⟨aK,a9⟩,aM,aY⟩
 refine bC (fun s=>ig s∧h8 6 (if a5=true then ⟨v.c,dG v.s⟩else v) s) ?_ ?_
 ·have jJ:jB.pre [.agg [.bool v.s.lo.neg,.ints .i64 (au v.s.lo.m),.int .i64 v.s.lo.e,.bool v.s.hi.neg,.ints .i64 (au v.s.hi.m),.int .i64 v.s.hi.e]]:=⟨v.s,rfl,gJ LP.2 (by omega) (by omega)⟩
  have hT:jB.res [.agg [.bool v.s.lo.neg,.ints .i64 (au v.s.lo.m),.int .i64 v.s.lo.e,.bool v.s.hi.neg,.ints .i64 (au v.s.hi.m),.int .i64 v.s.hi.e]]=a2 (dG v.s):=by simp only[jB,dY]
  unfold a2 aZ at hT
  cases a5<;>simp (maxSteps:=9^9) only[↓al,ak,simprocAttr,bH,aK,a9,aM,aY,ig,h8,Hl,jJ,hT,Bool.false_eq_true]
 generalize (if a5=true then (⟨v.c,dG v.s⟩:dL)else v)=z
 rintro s ⟨⟨aK,a9⟩,aM,aY⟩
 simp (maxSteps:=9^9) only[↓al,ak,simprocAttr,aK,a9,aM,aY,en,aZ]
def fp (p:dL):List D:=[.bool p.c.lo.neg,aZ p.c.lo.m,.int .i64 p.c.lo.e,.bool p.c.hi.neg,aZ p.c.hi.m,.int .i64 p.c.hi.e,.bool p.s.lo.neg,aZ p.s.lo.m,.int .i64 p.s.lo.e,.bool p.s.hi.neg,aZ p.s.hi.m,.int .i64 p.s.hi.e]
def vX (w:Int) (n:Nat):D:= .recs 12 ((List.range n).map fun k=>fp (aB w k))
def iB (p:dL):D:= .du [a2 p.c,a2 p.s]
def BG:br where
 pre:=fun ds=>∃(a:Nat) (w:Int) (n:Nat),ds=[jl a,.int .i64 w,vX w n]∧a≤144115188075855872∧a0 a≤14∧a0 a≤n+2∧0≤w∧w≤800
 res:=fun ds=>match ds with
  |[.agg [.int _ K,.int _ Q],.int _ w,_]=>iB (rest K Q w)
  |_=> .nilp
def rl:br where
 pre:=fun ds=>∃(K:Int) (Q:Nat) (w:Int) (n:Nat),ds=[cd K Q,.int .i64 w,vX w n]∧Q≤60∧aI K∧a0 (bV (an K Q))≤14∧a0 (bV (an K Q))≤n+2∧0≤w∧w≤800
 res:=fun ds=>match ds with
  |[.agg [.int _ K,.int _ Q],.int _ w,_]=>iB (dh (an K Q.toNat) w)
  |_=> .nilp
def cL (k:Nat) (x:bQ) (s:St):Prop:=s.af k= .box k 0∧s.aA k=some ⟨false,false,.cells [.d (.bool x.lo.neg),.d (.ints .i64 (au x.lo.m)),.d (.int .i64 x.lo.e),.d (.bool x.hi.neg),.d (.ints .i64 (au x.hi.m)),.d (.int .i64 x.hi.e)]⟩
def dF (k:Nat) (s:St):Prop:=s.af k= .box k 0∧s.aA k=some ⟨false,false,.cells [.d (.bool false),.d (.ints .i64 []),.d (.int .i64 0),.d (.bool false),.d (.ints .i64 []),.d (.int .i64 0)]⟩
theorem aey (Γ:Env) (atu:Γ.has 153 yL) (atv:Γ.has 154 BG) (atw:Γ.has 155 BD) (Hm:Γ.has 33 kt) (ds:List D) (h:rl.pre ds):bK Γ acQ acR ds fun d=>d=rl.res ds:=by
 obtain⟨K,Q,w,n,rfl,cw,b9,aO,DA,gp,gD⟩:=h
 have bO:rl.res [cd K Q,.int .i64 w,vX w n]=iB (dh (an K Q) w):=by simp only[rl,cd,Int.toNat_natCast]
 rw[bO]
 obtain⟨a,a6⟩:∃a,a=an K Q:=⟨_,rfl⟩
 have b4:a<1152921504606846976:=a6▸ft K Q
 have p1:yL.pre [.agg [.int .i64 K,.int .i64 Q]]:=⟨K,Q,rfl,cw,b9⟩
 have bA:yL.res [.agg [.int .i64 K,.int .i64 Q]]= .agg [.int .i64 (ca a),.int .i64 (b5 (bV a)),.int .i64 (a0 (bV a))]:=by simp only[yL,Int.toNat_natCast,←a6];rfl
 rw[←a6]at aO DA⊢
 obtain⟨L,dz⟩:∃L,L=(List.range n).map fun k=>fp (aB w k):=⟨_,rfl⟩
 have Wz:vX w n= .recs 12 L:=by rw[dz];rfl
 have cq:BG.pre [.agg [.int .i64 (b5 (bV a)),.int .i64 (a0 (bV a))],.int .i64 w,vX w n]:=⟨bV a,w,n,rfl,CV a,aO,DA,gp,gD⟩
 have bX:BG.res [.agg [.int .i64 (b5 (bV a)),.int .i64 (a0 (bV a))],.int .i64 w,vX w n]=iB (rest (b5 (bV a)) (a0 (bV a)) w):=rfl
 rw[Wz]at cq bX⊢
 have ar:=Sx (K:=b5 (bV a)) (Q:=a0 (bV a)) (by omega) gp gD
 unfold dh
 obtain⟨r,Ci⟩:∃r,r=rest (b5 (bV a)) (a0 (bV a)) w:=⟨_,rfl⟩
 rw[←Ci]at bX ar⊢
 have eO:=Bj b4
 obtain⟨e,he⟩:∃e,e=ca a:=⟨_,rfl⟩
 rw[←he]at bA eO⊢
 obtain⟨bM,fl⟩:∃b,b=decide ((e:Int)=1∨(e:Int)=2∨(e:Int)=5∨(e:Int)=6):=⟨_,rfl⟩
 obtain⟨aW,jX⟩:∃b,b=decide (2≤(e:Int)∧(e:Int)≤5):=⟨_,rfl⟩
 obtain⟨a5,DK⟩:∃b,b=decide (4≤(e:Int)):=⟨_,rfl⟩
 have fK:BD.pre [.int .i64 e]:=⟨e,rfl,by omega,by omega⟩
 have eJ:BD.res [.int .i64 e]= .du [.bool bM,.bool aW,.bool a5]:=by rw[fl,jX,DK];rfl
 have bR:(e=1∨e=2∨e=5∨e=6)↔bM=true:=by rw[fl,decide_eq_true_iff];omega
 have bS:(2≤e∧e≤5)↔aW=true:=by rw[jX,decide_eq_true_iff];omega
 have hj:(4≤e)↔a5=true:=by rw[DK,decide_eq_true_iff];omega
 simp only[bR,bS,hj]
 clear bR bS hj fl jX DK
 obtain⟨u,hu⟩:∃u:dL,u=if bM=true then ⟨r.s,r.c⟩else r:=⟨_,rfl⟩
 have Cj:u.win (-20000) 200:=by rw[hu];split;exact⟨ar.2,ar.1⟩;exact ar
 obtain⟨v,aB⟩:∃v:dL,v=if aW=true then ⟨dG u.c,u.s⟩else u:=⟨_,rfl⟩
 have LP:v.win (-20000) 200:=by rw[aB];split;exact⟨sb Cj.1,Cj.2⟩;exact Cj
 rw[←hu,←aB]
 unfold iB a2 aZ at bX
 rw[gx]
 unfold acQ acR
 refine bC (fun s=>s.af 1= .d (.int .i64 w)∧s.af 2= .d (.recs 12 L)∧s.af 3= .box 3 0∧s.aA 3=some ⟨false,false,.cells [.d (.int .i64 K),.d (.int .i64 Q)]⟩∧dF 6 s∧dF 7 s) ?_ ?_
 ·simp (maxSteps:=9^9) only[↓al,ak,simprocAttr,cd,dF]
 rintro s ⟨h1,h2,aq,hj,⟨aM,aY⟩,aS,b6⟩
 refine bC (fun s=>s.af 1= .d (.int .i64 w)∧s.af 2= .d (.recs 12 L)∧s.af 8= .box 8 0∧s.aA 8=some ⟨false,false,.cells [.d (.int .i64 e),.d (.int .i64 (b5 (bV a))),.d (.int .i64 (a0 (bV a)))]⟩∧dF 6 s∧dF 7 s) ?_ ?_
 ·simp (maxSteps:=9^9) only[↓al,ak,simprocAttr,h1,h2,aq,hj,aM,aY,aS,b6,dF,atu,p1,bA]
 rintro s ⟨h1,h2,bn,bZ,⟨aM,aY⟩,aS,b6⟩
 refine bC (fun s=>s.af 8= .box 8 0∧s.aA 8=some ⟨false,false,.cells [.d (.int .i64 e),.d (.int .i64 (b5 (bV a))),.d (.int .i64 (a0 (bV a)))]⟩∧cL 9 r.c s∧cL 10 r.s s∧dF 6 s∧dF 7 s) ?_ ?_
 ·simp (maxSteps:=9^9) only[↓al,ak,simprocAttr,h1,h2,bn,bZ,aM,aY,aS,b6,cL,dF,atv,cq,bX]
 rintro s ⟨bn,bZ,⟨bH,cD⟩,⟨hA,xN⟩,⟨aM,aY⟩,aS,b6⟩
 refine bC (fun s=>s.af 11= .d (.bool bM)∧s.af 12= .d (.bool aW)∧s.af 13= .d (.bool a5)∧cL 9 r.c s∧cL 10 r.s s∧dF 6 s∧dF 7 s) ?_ ?_
 ·simp (maxSteps:=9^9) only[↓al,ak,simprocAttr,bn,bZ,bH,cD,hA,xN,aM,aY,aS,b6,cL,dF,atw,fK,eJ]
 rintro s ⟨ai,gV,qC,⟨bH,cD⟩,⟨hA,xN⟩,⟨aM,aY⟩,aS,b6⟩
 refine bC (fun s=>s.af 12= .d (.bool aW)∧s.af 13= .d (.bool a5)∧cL 9 u.c s∧cL 10 u.s s∧dF 6 s∧dF 7 s) ?_ ?_
 ·rw[hu]
  cases bM<;>simp (maxSteps:=9^9) only[↓al,ak,simprocAttr,ai,gV,qC,bH,cD,hA,xN,aM,aY,aS,b6,cL,dF,Bool.false_eq_true]
 rintro s ⟨gV,qC,⟨bH,cD⟩,⟨hA,xN⟩,⟨aM,aY⟩,aS,b6⟩
 refine bC (fun s=>s.af 13= .d (.bool a5)∧cL 9 v.c s∧cL 10 v.s s∧dF 6 s∧dF 7 s) ?_ ?_
 ·rw[aB]
  have jJ:kt.pre [.agg [.bool u.c.lo.neg,.ints .i64 (au u.c.lo.m),.int .i64 u.c.lo.e,.bool u.c.hi.neg,.ints .i64 (au u.c.hi.m),.int .i64 u.c.hi.e]]:=⟨u.c,rfl⟩
  have hT:kt.res [.agg [.bool u.c.lo.neg,.ints .i64 (au u.c.lo.m),.int .i64 u.c.lo.e,.bool u.c.hi.neg,.ints .i64 (au u.c.hi.m),.int .i64 u.c.hi.e]]=a2 (dG u.c):=by simp only[kt,dY]
  unfold a2 aZ at hT
  cases aW<;>simp (maxSteps:=9^9) only[↓al,ak,simprocAttr,gV,qC,bH,cD,hA,xN,aM,aY,aS,b6,cL,dF,Hm,jJ,hT,Bool.false_eq_true]
 rintro s ⟨qC,⟨bH,cD⟩,⟨hA,xN⟩,⟨aM,aY⟩,aS,b6⟩
 refine bC (fun s=>cL 9 (if a5=true then (⟨v.c,dG v.s⟩:dL)else v).c s∧cL 10 (if a5=true then (⟨v.c,dG v.s⟩:dL)else v).s s∧dF 6 s∧dF 7 s) ?_ ?_
 ·have jJ:kt.pre [.agg [.bool v.s.lo.neg,.ints .i64 (au v.s.lo.m),.int .i64 v.s.lo.e,.bool v.s.hi.neg,.ints .i64 (au v.s.hi.m),.int .i64 v.s.hi.e]]:=⟨v.s,rfl⟩
  have hT:kt.res [.agg [.bool v.s.lo.neg,.ints .i64 (au v.s.lo.m),.int .i64 v.s.lo.e,.bool v.s.hi.neg,.ints .i64 (au v.s.hi.m),.int .i64 v.s.hi.e]]=a2 (dG v.s):=by simp only[kt,dY]
  unfold a2 aZ at hT
  cases a5<;>simp (maxSteps:=9^9) only[↓al,ak,simprocAttr,qC,bH,cD,hA,xN,aM,aY,aS,b6,cL,dF,Hm,jJ,hT,Bool.false_eq_true]
 generalize (if a5=true then (⟨v.c,dG v.s⟩:dL)else v)=z
 rintro s ⟨⟨bH,cD⟩,⟨hA,xN⟩,⟨aM,aY⟩,aS,b6⟩
 simp (maxSteps:=2000000) only[↓al,ak,↓reduceIte,reduceCtorEq,Nat.reduceEqDiff,Nat.reduceLeDiff,Nat.reduceSub,Nat.reduceAdd,Int.reduceToNat,Nat.reducePow,Int.reducePow,Int.reduceLE,Int.reduceLT,IntKind.bits,bH,cD,hA,xN,aM,aY,aS,b6,iB,a2,aZ]
 exact⟨by decide,by decide⟩
def tZ:br where
 pre:=fun ds=>∃w:Int,ds=[.int .i64 w]
 res:=fun ds=>match ds with
  |[w]=> .fn 211 [] [.ptr [w]]
  |_=> .nilp
theorem Ge (Γ:Env) (ds:List D) (h:tZ.pre ds):bK Γ acM acN ds fun d=>d=tZ.res ds:=by
 obtain⟨w,rfl⟩:=h
 simp (maxSteps:=9^9) only[↓al,ak,simprocAttr,acM,acN,tZ]
def C9:k0 where
 pre:=fun ds=>∃w:Int,ds=[.ptr [.int .i64 w]]∧0≤w∧w≤800
 seq:=fun ds k=>match ds with
  |[.ptr [.int _ w]]=>some [en (aB w k)]
  |_=>none
end RV.Dr
