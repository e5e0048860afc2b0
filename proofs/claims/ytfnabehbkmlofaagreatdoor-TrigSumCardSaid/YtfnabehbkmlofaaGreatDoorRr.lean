/- Lemmas for a claim: an abstract machine for the translated code, proved sound, and contracts of functions. By an AI agent. -/
import Derived.Test.YtfnabehbkmlofaaGreatDoorRi
import Derived.Test.YtfnabehbkmlofaaGreatDoorRd
import Derived.Test.YtfnabehbkmlofaaGreatDoorRe
import Derived.Test.YtfnabehbkmlofaaGreatDoorRf
import Derived.Test.YtfnabehbkmlofaaGreatDoorRh
set_option linter.all false
namespace RV.Dr
open Go RV RR
set_option linter.unusedSimpArgs false
set_option linter.unusedVariables false
set_option maxRecDepth 100000
set_option maxHeartbeats 8000000
theorem aoc (A B:Nat):cF false ((A+B) % 1152921504606846976)=cF false A*cF false B+ -(cF true A*cF true B):=by
 rw[rW,RR.Je,RR.A8];simp only[RR.bD.mul,rW,qu];grind
theorem aod (A B:Nat):cF true ((A+B) % 1152921504606846976)=cF true A*cF false B+cF false A*cF true B:=by
 rw[qu,RR.Je,RR.A8];simp only[RR.bD.mul,rW,qu];grind
def o5 (d:a8):List D:=[.bool d.neg,.ints .i64 (au d.m),.int .i64 d.e]
def vj (W:List Nat) (i:Nat):List (List D):=(List.range i).map fun j=>o5 (dm (W.getD j 0))
def H0:br where
 pre:=fun ds=>∃j8 zq j9 zr:Int,ds=[.agg [.int .i64 j8,.int .i64 zq],.agg [.int .i64 j9,.int .i64 zr]]
 res:=fun _=> .bool true
theorem ay4 (Γ:Env) (v5:Γ.has 42 hP) (qx:Γ.has 43 iy) (pk:Γ.has 44 dX) (pn:Γ.has 46 ed) (P0:Γ.has 61 rS) (Lu:Γ.has 52 qw) (zb:Γ.has 53 ix) (Hk:Γ.has 58 jz) (PI:Γ.has 62 lE) (Ae:Γ.has 56 gn) (vV:Γ.has 57 gC) (ds:List D) (h:H0.pre ds):bK Γ ajc ajd ds fun d=>d=H0.res ds:=by
 obtain⟨j8,zq,j9,zr,rfl⟩:=h
 have bO:∀ds,H0.res ds= .bool true:=fun _=>rfl
 have xR:hP.pre []:=rfl
 have xS:hP.res []= .bool true:=rfl
 have P4:iy.pre [.agg [.int .i64 j8,.int .i64 zq]]:=⟨_,_,rfl⟩
 have P5:iy.res [.agg [.int .i64 j8,.int .i64 zq]]= .bool (jT [.int .i64 j8,.int .i64 zq]):=rfl
 have Wa:iy.pre [.agg [.int .i64 j9,.int .i64 zr]]:=⟨_,_,rfl⟩
 have Wb:iy.res [.agg [.int .i64 j9,.int .i64 zr]]= .bool (jT [.int .i64 j9,.int .i64 zr]):=rfl
 rw[bO,gx]
 unfold ajc ajd
 refine bC (fun s=>bN s 2 [.d (.int .i64 j8),.d (.int .i64 zq)]∧bN s 3 [.d (.int .i64 j9),.d (.int .i64 zr)]) (by simp (maxSteps:=2000000) only[↓al,ak,↓reduceIte,reduceCtorEq,Nat.reduceEqDiff,Nat.reduceLeDiff,Nat.reduceSub,Nat.reduceAdd,Int.reduceToNat,Nat.reducePow,Int.reducePow,Int.reduceLE,Int.reduceLT,IntKind.bits,bN]) ?_
 rintro s ⟨⟨h2,aW⟩,aq,a5⟩
 refine bC (fun s=>s.af 5= .d (.bool true)∧bN s 2 [.d (.int .i64 j8),.d (.int .i64 zq)]∧bN s 3 [.d (.int .i64 j9),.d (.int .i64 zr)]) (by simp (maxSteps:=2000000) only[↓al,ak,↓reduceIte,reduceCtorEq,Nat.reduceEqDiff,Nat.reduceLeDiff,Nat.reduceSub,Nat.reduceAdd,Int.reduceToNat,Nat.reducePow,Int.reducePow,Int.reduceLE,Int.reduceLT,IntKind.bits,h2,aW,aq,a5,bN,v5,xR,xS]) ?_
 clear h2 aW aq a5
 rintro s ⟨aG,⟨h2,aW⟩,aq,a5⟩
 refine bC (fun s=>(jT [.int .i64 j8,.int .i64 zq]=true∧jT [.int .i64 j9,.int .i64 zr]=true)∧s.af 5= .d (.bool true)∧bN s 2 [.d (.int .i64 j8),.d (.int .i64 zq)]∧bN s 3 [.d (.int .i64 j9),.d (.int .i64 zr)]) ?_ ?_
 ·generalize (jT [.int .i64 j8,.int .i64 zq])=t at*
  generalize (jT [.int .i64 j9,.int .i64 zr])=u at*
  cases t with
  |false=>simp (maxSteps:=2000000) only[↓al,ak,↓reduceIte,reduceCtorEq,Nat.reduceEqDiff,Nat.reduceLeDiff,Nat.reduceSub,Nat.reduceAdd,Int.reduceToNat,Nat.reducePow,Int.reducePow,Int.reduceLE,Int.reduceLT,IntKind.bits,aG,h2,aW,aq,a5,bN,qx,P4,P5,Bool.not_false]
  |true=>
   cases u with
   |false=>simp (maxSteps:=2000000) only[↓al,ak,↓reduceIte,reduceCtorEq,Nat.reduceEqDiff,Nat.reduceLeDiff,Nat.reduceSub,Nat.reduceAdd,Int.reduceToNat,Nat.reducePow,Int.reducePow,Int.reduceLE,Int.reduceLT,IntKind.bits,aG,h2,aW,aq,a5,bN,qx,P4,P5,Wa,Wb,Bool.not_false,Bool.not_true]
   |true=>simp (maxSteps:=2000000) only[↓al,ak,↓reduceIte,reduceCtorEq,Nat.reduceEqDiff,Nat.reduceLeDiff,Nat.reduceSub,Nat.reduceAdd,Int.reduceToNat,Nat.reducePow,Int.reducePow,Int.reduceLE,Int.reduceLT,IntKind.bits,aG,h2,aW,aq,a5,bN,qx,P4,P5,Wa,Wb,Bool.not_true]
 clear aG h2 aW aq a5 P4 P5 Wa Wb
 rintro s ⟨⟨bb,dT⟩,aG,⟨h2,aW⟩,aq,a5⟩
 obtain⟨xZ,rfl,axJ,axK,aAf⟩:=Ew bb
 obtain⟨x0,rfl,axL,axM,aAg⟩:=Ew dT
 obtain⟨tf,Dh⟩:∃a,a=an j8 xZ:=⟨_,rfl⟩
 have Ks:tf<1152921504606846976:=Dh▸ft _ _
 have Di:a0 tf≤14:=Dh▸jd axJ
 obtain⟨tg,Dj⟩:∃a,a=an j9 x0:=⟨_,rfl⟩
 have Kt:tg<1152921504606846976:=Dj▸ft _ _
 have Dk:a0 tg≤14:=Dj▸jd axL
 obtain⟨cj,yN⟩:∃a,a=(tf+tg) % 1152921504606846976:=⟨_,rfl⟩
 have ru:cj<1152921504606846976:=by rw[yN];omega
 have yO:a0 cj≤14:=by
  rw[u5 ru,yN]
  have h1:=(u5 Ks).1 Di
  have h2:=(u5 Kt).1 Dk
  omega
 have ajB:=aoc tf tg
 have ajC:=aod tf tg
 rw[←yN]at ajB ajC
 have aiF:dX.pre [.agg [.int .i64 j8,.int .i64 xZ]]:=⟨j8,xZ,rfl,by omega,Dh▸Di⟩
 have aiG:dX.res [.agg [.int .i64 j8,.int .i64 xZ]]= .flt (bG false tf):=by simp only[dX,Int.toNat_natCast,←Dh]
 have aiH:ed.pre [.agg [.int .i64 j8,.int .i64 xZ]]:=⟨j8,xZ,rfl,by omega,Dh▸Di⟩
 have aiI:ed.res [.agg [.int .i64 j8,.int .i64 xZ]]= .flt (bG true tf):=by simp only[ed,Int.toNat_natCast,←Dh]
 have aiJ:dX.pre [.agg [.int .i64 j9,.int .i64 x0]]:=⟨j9,x0,rfl,by omega,Dj▸Dk⟩
 have aiK:dX.res [.agg [.int .i64 j9,.int .i64 x0]]= .flt (bG false tg):=by simp only[dX,Int.toNat_natCast,←Dj]
 have aiL:ed.pre [.agg [.int .i64 j9,.int .i64 x0]]:=⟨j9,x0,rfl,by omega,Dj▸Dk⟩
 have aiM:ed.res [.agg [.int .i64 j9,.int .i64 x0]]= .flt (bG true tg):=by simp only[ed,Int.toNat_natCast,←Dj]
 have aiN:dX.pre [.agg [.int .i64 (b5 cj),.int .i64 (a0 cj)]]:=⟨_,_,rfl,by omega,by rw[kj ru];exact yO⟩
 have aiO:dX.res [.agg [.int .i64 (b5 cj),.int .i64 (a0 cj)]]= .flt (bG false cj):=by simp only[dX,Int.toNat_natCast,kj ru]
 have aiP:ed.pre [.agg [.int .i64 (b5 cj),.int .i64 (a0 cj)]]:=⟨_,_,rfl,by omega,by rw[kj ru];exact yO⟩
 have aiQ:ed.res [.agg [.int .i64 (b5 cj),.int .i64 (a0 cj)]]= .flt (bG true cj):=by simp only[ed,Int.toNat_natCast,kj ru]
 have qD:rS.pre [.agg [.int .i64 j8,.int .i64 xZ],.agg [.int .i64 j9,.int .i64 x0]]:=⟨j8,xZ,j9,x0,rfl,(by omega),(by omega),axK,axM⟩
 have qE:rS.res [.agg [.int .i64 j8,.int .i64 xZ],.agg [.int .i64 j9,.int .i64 x0]]= .agg [.int .i64 (b5 cj),.int .i64 (a0 cj)]:=by
  have q:(an (j8:Int) (xZ)+an (j9:Int) (x0)) % 1152921504606846976=cj:=by rw[←Dh,←Dj,yN]
  rw[←q];rfl
 have f0:=jR (b:=false) Ks Di
 have f1:=jR (b:=true) Ks Di
 have f2:=jR (b:=false) Kt Dk
 have f3:=jR (b:=true) Kt Dk
 have f4:=jR (b:=false) ru yO
 have f5:=jR (b:=true) ru yO
 have qK:=ts (b:=false) Ks Di
 have ew:=ts (b:=true) Ks Di
 have eN:=ts (b:=false) Kt Dk
 have Cf:=ts (b:=true) Kt Dk
 have zj:=ts (b:=false) ru yO
 have DX:=ts (b:=true) ru yO
 have hn:=k7 false tf
 have ct:=k7 true tf
 have db:=k7 false tg
 have fc:=k7 true tg
 have xK:=k7 false cj
 have Qd:=k7 true cj
 generalize cF false tf=iz at*
 generalize cF true tf=gT at*
 generalize cF false tg=kz at*
 generalize cF true tg=WG at*
 generalize cF false cj=ajt at*
 generalize cF true cj=aju at*
 generalize bG false tf=v0 at*
 generalize bG true tf=v1 at*
 generalize bG false tg=v2 at*
 generalize bG true tg=Au at*
 generalize bG false cj=v4 at*
 generalize bG true cj=HU at*
 obtain⟨W,hW⟩:∃W,W=[v0,v1,v2,Au,v4,HU]:=⟨_,rfl⟩
 have ay5:W.length=6:=by rw[hW];rfl
 have ajD:∀i,i<6→qw.pre [.flt (W.getD i 0)]∧ix.pre [.flt (W.getD i 0)]:=by
  intro i hi
  rw[hW]
  rcases (by omega:i=0∨i=1∨i=2∨i=3∨i=4∨i=5)with rfl|rfl|rfl|rfl|rfl|rfl
  ·exact⟨qK,_,rfl,f0.fin,f0.lt⟩
  ·exact⟨ew,_,rfl,f1.fin,f1.lt⟩
  ·exact⟨eN,_,rfl,f2.fin,f2.lt⟩
  ·exact⟨Cf,_,rfl,f3.fin,f3.lt⟩
  ·exact⟨zj,_,rfl,f4.fin,f4.lt⟩
  ·exact⟨DX,_,rfl,f5.fin,f5.lt⟩
 refine bC (fun s=>s.af 5= .d (.bool true)∧s.af 6= .d (.flts [v0,v1,v2,Au,v4,HU])) (by simp (maxSteps:=2000000) only[↓al,ak,↓reduceIte,reduceCtorEq,Nat.reduceEqDiff,Nat.reduceLeDiff,Nat.reduceSub,Nat.reduceAdd,Int.reduceToNat,Nat.reducePow,Int.reducePow,Int.reduceLE,Int.reduceLT,IntKind.bits,aG,h2,aW,aq,a5,pk,aiF,aiG,pn,aiH,aiI,aiJ,aiK,aiL,aiM,P0,qD,qE,aiN,aiO,aiP,aiQ];first|done|decide) ?_
 clear aG h2 aW aq a5 aiF aiG aiH aiI aiJ aiK aiL aiM qD qE aiN aiO aiP aiQ
 rw[←hW]
 rintro s ⟨aG,aM⟩
 refine bC (fun s=>s.af 5= .d (.bool true)∧s.af 6= .d (.flts W)∧s.af 7= .own 7 0 0∧s.aA 7=some ⟨false,false,.recs 3 []⟩) (by simp (maxSteps:=2000000) only[↓al,ak,↓reduceIte,reduceCtorEq,Nat.reduceEqDiff,Nat.reduceLeDiff,Nat.reduceSub,Nat.reduceAdd,Int.reduceToNat,Nat.reducePow,Int.reducePow,Int.reduceLE,Int.reduceLT,IntKind.bits,aG,aM]) ?_
 clear aG aM
 rintro s ⟨aG,aM,aS,b6⟩
 refine cB (fun s=>s.af 5= .d (.bool true)∧s.af 7= .own 7 0 6∧s.aA 7=some ⟨false,false,.recs 3 (vj W 6)⟩) ?_ ?_
 ·refine bC (fun s=>s.af 5= .d (.bool true)∧s.af 6= .d (.flts W)∧s.af 7= .own 7 0 0∧s.aA 7=some ⟨false,false,.recs 3 []⟩∧s.af 8= .d (.int .i64 0)) (by simp (maxSteps:=2000000) only[↓al,ak,↓reduceIte,reduceCtorEq,Nat.reduceEqDiff,Nat.reduceLeDiff,Nat.reduceSub,Nat.reduceAdd,Int.reduceToNat,Nat.reducePow,Int.reducePow,Int.reduceLE,Int.reduceLT,IntKind.bits,aG,aM,aS,b6]) ?_
  clear aG aM aS b6
  rintro s ⟨aG,aM,aS,b6,bn⟩
  show cb Γ (.block 0 (.loop _)) _ _
  simp only[ka]
  refine eV (fun s=>∃i:Nat,i≤6∧s.af 5= .d (.bool true)∧s.af 6= .d (.flts W)∧s.af 7= .own 7 0 i∧s.aA 7=some ⟨false,false,.recs 3 (vj W i)⟩∧s.af 8= .d (.int .i64 i))
   (fun s=>match s.af 8 with| .d (.int _ i)=>6 - i.toNat|_=>0) ⟨0,by omega,aG,aM,aS,b6,bn⟩ ?_
  clear aG aM aS b6 bn
  rintro s ⟨i,hi,aG,aM,aS,b6,bn⟩
  have hlen:(vj W i).length=i:=by unfold vj;rw[List.length_map,List.length_range]
  by_cases c:(i:Int)<(W.length:Int)
  ·have fL:i<W.length:=by omega
   have dr:(0:Int)≤(i:Int):=by omega
   obtain⟨jJ,D3⟩:=ajD i (by omega)
   have hT:qw.res [.flt (W.getD i 0)]= .bool true:=rfl
   have ro:ix.res [.flt (W.getD i 0)]= .du [aV (dm (W.getD i 0)),.bool true]:=rfl
   have lz:vj W i++[o5 (dm (W.getD i 0))]=vj W (i+1):=by unfold vj;rw[List.range_succ,List.map_append];rfl
   have eG:(vj W i++[o5 (dm (W.getD i 0))]).length=i+1:=by rw[List.length_append,hlen];rfl
   generalize hw:W.getD i 0=w at*
   generalize dm w=X at*
   unfold o5 at lz eG
   unfold aV aZ at ro
   generalize vj W i=R at*
   generalize axN:vj W (i+1)=ay6 at*
   simp (maxSteps:=2000000) only[↓al,ak,↓reduceIte,reduceCtorEq,Nat.reduceEqDiff,Nat.reduceLeDiff,Nat.reduceSub,Nat.reduceAdd,Int.reduceToNat,Nat.reducePow,Int.reducePow,Int.reduceLE,Int.reduceLT,IntKind.bits,aG,aM,aS,b6,bn,c,fL,dr,Int.toNat_natCast,hw,Lu,jJ,hT,Bool.not_true,zb,D3,ro,hlen,lz,eG]
   have axO:ay6.length=i+1:=by rw[←lz];exact eG
   rw[axO]
   exact⟨by simp only[b1];omega,by simp only[aI];omega,⟨i+1,by omega,rfl,by rw[axN],by omega⟩,by omega⟩
  ·obtain rfl:i=6:=by omega
   simp (maxSteps:=2000000) only[↓al,ak,↓reduceIte,reduceCtorEq,Nat.reduceEqDiff,Nat.reduceLeDiff,Nat.reduceSub,Nat.reduceAdd,Int.reduceToNat,Nat.reducePow,Int.reducePow,Int.reduceLE,Int.reduceLT,IntKind.bits,aG,aM,aS,b6,bn,c]
 clear aG aM aS b6
 have eC:vj W 6=[o5 (dm v0),o5 (dm v1),o5 (dm v2),o5 (dm Au),o5 (dm v4),o5 (dm HU)]:=by rw[hW];rfl
 rw[eC]
 have aR:=tB f0.fin f0.lt
 have cf:=tB f1.fin f1.lt
 have cP:=tB f2.fin f2.lt
 have pr:=tB f3.fin f3.lt
 have L3:=tB f4.fin f4.lt
 have ay7:=tB f5.fin f5.lt
 have b8:=A2 (.inl f0) hn
 have aN:=A2 (.inl f1) ct
 have aX:=A2 (.inl f2) db
 have cc:=A2 (.inl f3) fc
 have cN:=A2 (.inl f4) xK
 have dN:=A2 (.inl f5) Qd
 have iR:=(CM (.inl f0) hn).1
 have bh:=(CM (.inl f1) ct).1
 have aiR:=Ey iR db b8 aX
 have aiS:=Ey bh fc aN cc
 have aiT:=Ey bh db aN aX
 have aiU:=Ey iR fc b8 cc
 unfold dI at aiR aiS aiT aiU cN dN
 clear b8 aN aX cc iR bh f0 f1 f2 f3 f4 f5 qK ew eN Cf zj DX ajD ay5 hW eC
 generalize dm v0=d0 at*
 generalize dm v1=d1 at*
 generalize dm v2=d2 at*
 generalize dm Au=d3 at*
 generalize dm v4=d4 at*
 generalize dm HU=d5 at*
 have up:∀{x:a8} {lo hi:Int},x.win lo hi→-50000≤lo→hi≤50000→dj x:=fun h a b=>win.up h a b
 have mul:∀{x y:a8},x.win (-1074) 1100→y.win (-1074) 1100→jz.pre [aV x,aV y]∧jz.res [aV x,aV y]=aV (cV x y):=fun aj hy=>
  ⟨⟨_,_,rfl,up aj (by omega) (by omega),up hy (by omega) (by omega)⟩,by simp only[jz,aV,aZ,ck]⟩
 obtain⟨auc,aud⟩:=mul aR cP
 obtain⟨aue,auf⟩:=mul cf pr
 obtain⟨aug,auh⟩:=mul cf cP
 obtain⟨aui,auj⟩:=mul aR pr
 have aiV:=uR aR cP
 have axP:=uR cf pr
 have aiW:=uR cf cP
 have aiX:=uR aR pr
 have axQ:=A9 d0 d2
 have axR:=A9 d1 d3
 have axS:=A9 d1 d2
 have axT:=A9 d0 d3
 generalize cV d0 d2=A at*
 generalize cV d1 d3=B at*
 generalize cV d1 d2=E at*
 generalize cV d0 d3=G at*
 have flip:∀x:a8,lE.pre [aV x]∧lE.res [aV x]=aV (eQ x):=fun x=>⟨⟨x,rfl⟩,by simp only[lE,aV,aZ,ck]⟩
 have add:∀{x y:a8},x.win (-3000) 3000→y.win (-3000) 3000→gn.pre [aV x,aV y]∧gn.res [aV x,aV y]=aV (dW x y):=fun aj hy=>
  ⟨⟨_,_,rfl,up aj (by omega) (by omega),up hy (by omega) (by omega)⟩,by simp only[gn,aV,aZ,ck]⟩
 obtain⟨axU,axV⟩:=flip B
 obtain⟨axW,axX⟩:=flip d4
 obtain⟨axY,axZ⟩:=flip d5
 have aiY:=tn axP
 have aiZ:=tn L3
 have ai0:=tn ay7
 have ax0:=uZ B
 have ax1:=uZ d4
 have ax2:=uZ d5
 generalize eQ B=ajE at*
 generalize eQ d4=ajF at*
 generalize eQ d5=ajG at*
 obtain⟨Lv,Lw⟩:=add (win.up aiV (by omega) (by omega)) (win.up aiY (by omega) (by omega))
 have ai1:=uQ aiV aiY
 have ax3:=si A ajE
 generalize dW A ajE=pB at*
 obtain⟨Lx,Ly⟩:=add (win.up ai1 (by omega) (by omega)) (win.up aiZ (by omega) (by omega))
 have ax4:=uQ (win.up ai1 (show (-3000:Int)≤_ by omega) (show _≤(3000:Int)by omega)) (win.up aiZ (by omega) (by omega))
 have ax5:=si pB ajF
 generalize dW pB ajF=lR at*
 obtain⟨ax6,ax7⟩:=add (win.up aiW (by omega) (by omega)) (win.up aiX (by omega) (by omega))
 have ai2:=uQ aiW aiX
 have ax8:=si E G
 generalize dW E G=AE at*
 obtain⟨ax9,aya⟩:=add (win.up ai2 (by omega) (by omega)) (win.up ai0 (by omega) (by omega))
 have ayb:=uQ (win.up ai2 (show (-3000:Int)≤_ by omega) (show _≤(3000:Int)by omega)) (win.up ai0 (by omega) (by omega))
 have ayc:=si AE ajG
 generalize dW AE ajG=qI at*
 have eZ:ax (-50)=ax (-51)+ax (-51):=by rw[←fk];rfl
 have gU:ax (-51)=ax (-52)+ax (-52):=by rw[←fk];rfl
 have ay8:ax (-52)=ax (-53)+ax (-53):=by rw[←fk];rfl
 have ay9:ax (-53)=ax (-54)+ax (-54):=by rw[←fk];rfl
 have VW:=c8 (-54)
 have cI:au 1=[1]:=by decide+kernel
 have aeZ:dj (fq (-50)):=by unfold fq;exact⟨⟨fun h=>absurd h (by decide),fun _=>by decide⟩,fun _=>by decide⟩
 have dP:e4 (kp lR) (fq (-50))≤0:=by
  rw[vd,N1]
  have v:bc lR=bc d0*bc d2+ -(bc d1*bc d3)+ -bc d4:=by rw[ax5,ax3,ax0,ax1,axQ,axR]
  refine Si ?_ ?_<;>rw[v]<;>grind
 have fw:e4 (kp qI) (fq (-50))≤0:=by
  rw[vd,N1]
  have v:bc qI=bc d1*bc d2+bc d0*bc d3+ -bc d5:=by rw[ayc,ax8,ax2,axS,axT]
  refine Si ?_ ?_<;>rw[v]<;>grind
 have Al:gC.pre [aV (kp lR),aV (fq (-50))]:=⟨_,_,rfl,up (RJ ax4) (by omega) (by omega),aeZ⟩
 have Am:gC.res [aV (kp lR),aV (fq (-50))]= .int .i64 (e4 (kp lR) (fq (-50))):=by simp only[gC,aV,aZ,ck]
 have LB:gC.pre [aV (kp qI),aV (fq (-50))]:=⟨_,_,rfl,up (RJ ayb) (by omega) (by omega),aeZ⟩
 have LC:gC.res [aV (kp qI),aV (fq (-50))]= .int .i64 (e4 (kp qI) (fq (-50))):=by simp only[gC,aV,aZ,ck]
 generalize e4 (kp lR) (fq (-50))=bR at*
 generalize e4 (kp qI) (fq (-50))=bS at*
 clear up mul flip add eZ gU ay8 ay9 aiR aiS aiT aiU cN dN ajB ajC
 unfold kp fq at Al Am LB LC
 unfold aV aZ at*
 simp only[cI]at Al Am LB LC
 obtain⟨RR,Ap⟩:∃RR,RR=[o5 d0,o5 d1,o5 d2,o5 d3,o5 d4,o5 d5]:=⟨_,rfl⟩
 have ia:RR.getD 0 []=[.bool d0.neg,.ints .i64 (au d0.m),.int .i64 d0.e]:=by rw[Ap];rfl
 have bA:RR.getD 1 []=[.bool d1.neg,.ints .i64 (au d1.m),.int .i64 d1.e]:=by rw[Ap];rfl
 have bX:RR.getD 2 []=[.bool d2.neg,.ints .i64 (au d2.m),.int .i64 d2.e]:=by rw[Ap];rfl
 have eJ:RR.getD 3 []=[.bool d3.neg,.ints .i64 (au d3.m),.int .i64 d3.e]:=by rw[Ap];rfl
 have Ce:RR.getD 4 []=[.bool d4.neg,.ints .i64 (au d4.m),.int .i64 d4.e]:=by rw[Ap];rfl
 have HH:RR.getD 5 []=[.bool d5.neg,.ints .i64 (au d5.m),.int .i64 d5.e]:=by rw[Ap];rfl
 have LN:RR.length=6:=by rw[Ap];rfl
 rw[←Ap]
 clear Ap
 rintro s ⟨aG,aS,b6⟩
 refine bC (fun s=>s.af 5= .d (.bool true)∧s.af 7= .own 7 0 6∧s.aA 7=some ⟨false,false,.recs 3 RR⟩∧bN s 11 (fT lR)) ?_ ?_
 ·simp (maxSteps:=2000000) only[↓al,ak,↓reduceIte,reduceCtorEq,Nat.reduceEqDiff,Nat.reduceLeDiff,Nat.reduceSub,Nat.reduceAdd,Int.reduceToNat,Nat.reducePow,Int.reducePow,Int.reduceLE,Int.reduceLT,IntKind.bits,aG,aS,b6,bN,fT,LN,ia,bA,bX,eJ,Ce,Hk,auc,aud,aue,auf,PI,axU,axV,axW,axX,Ae,Lv,Lw,Lx,Ly,Nat.zero_add,Nat.mul_one]
  (repeat' apply And.intro)<;>decide
 clear aG aS b6
 rintro s ⟨aG,aS,b6,cv,g3⟩
 unfold fT at g3
 refine bC (fun s=>s.af 5= .d (.bool true)∧bN s 11 (fT lR)∧bN s 12 (fT qI)) ?_ ?_
 ·simp (maxSteps:=2000000) only[↓al,ak,↓reduceIte,reduceCtorEq,Nat.reduceEqDiff,Nat.reduceLeDiff,Nat.reduceSub,Nat.reduceAdd,Int.reduceToNat,Nat.reducePow,Int.reducePow,Int.reduceLE,Int.reduceLT,IntKind.bits,aG,aS,b6,cv,g3,bN,fT,LN,ia,bA,bX,eJ,HH,Hk,aug,auh,aui,auj,PI,axY,axZ,Ae,ax6,ax7,ax9,aya,Nat.zero_add,Nat.mul_one]
  (repeat' apply And.intro)<;>decide
 clear aG aS b6 cv g3
 rintro s ⟨aG,⟨cv,g3⟩,cA,gE⟩
 unfold fT at g3 gE
 refine bC (fun s=>s.af 5= .d (.bool true)∧bN s 11 [.d (.bool false),.d (.ints .i64 (au lR.m)),.d (.int .i64 lR.e)]∧bN s 12 (fT qI)) (by simp (maxSteps:=2000000) only[↓al,ak,↓reduceIte,reduceCtorEq,Nat.reduceEqDiff,Nat.reduceLeDiff,Nat.reduceSub,Nat.reduceAdd,Int.reduceToNat,Nat.reducePow,Int.reducePow,Int.reduceLE,Int.reduceLT,IntKind.bits,aG,cv,g3,cA,gE,bN,fT]) ?_
 clear aG cv g3 cA gE
 rintro s ⟨aG,⟨cv,g3⟩,cA,gE⟩
 unfold fT at gE
 refine bC (fun s=>s.af 5= .d (.bool true)∧bN s 11 [.d (.bool false),.d (.ints .i64 (au lR.m)),.d (.int .i64 lR.e)]∧bN s 12 [.d (.bool false),.d (.ints .i64 (au qI.m)),.d (.int .i64 qI.e)]) (by simp (maxSteps:=2000000) only[↓al,ak,↓reduceIte,reduceCtorEq,Nat.reduceEqDiff,Nat.reduceLeDiff,Nat.reduceSub,Nat.reduceAdd,Int.reduceToNat,Nat.reducePow,Int.reducePow,Int.reduceLE,Int.reduceLT,IntKind.bits,aG,cv,g3,cA,gE,bN]) ?_
 clear aG cv g3 cA gE
 rintro s ⟨aG,⟨cv,g3⟩,cA,gE⟩
 refine bC (fun s=>s.af 5= .d (.bool true)∧bN s 11 [.d (.bool false),.d (.ints .i64 (au lR.m)),.d (.int .i64 lR.e)]∧bN s 12 [.d (.bool false),.d (.ints .i64 (au qI.m)),.d (.int .i64 qI.e)]∧bN s 13 [.d (.bool false),.d (.ints .i64 [1]),.d (.int .i64 (-50))]) (by simp (maxSteps:=2000000) only[↓al,ak,↓reduceIte,reduceCtorEq,Nat.reduceEqDiff,Nat.reduceLeDiff,Nat.reduceSub,Nat.reduceAdd,Int.reduceToNat,Nat.reducePow,Int.reducePow,Int.reduceLE,Int.reduceLT,IntKind.bits,aG,cv,g3,cA,gE,bN]) ?_
 clear aG cv g3 cA gE
 rintro s ⟨aG,⟨cv,g3⟩,⟨cA,gE⟩,dn,jA⟩
 simp (maxSteps:=2000000) only[↓al,ak,↓reduceIte,reduceCtorEq,Nat.reduceEqDiff,Nat.reduceLeDiff,Nat.reduceSub,Nat.reduceAdd,Int.reduceToNat,Nat.reducePow,Int.reducePow,Int.reduceLE,Int.reduceLT,IntKind.bits,aG,cv,g3,cA,gE,dn,jA,vV,Al,Am,dP,LB,LC,fw]
 try trivial
end RV.Dr
namespace RV.Dr
open Go Go.Proofs RV
set_option linter.unusedVariables false
set_option maxRecDepth 100000
set_option maxHeartbeats 4000000
theorem pm:Tryz.prog.follows .mixedOrders=true:=by kernel_rfl
def oB:Env:=Env.none
section
variable {B:Mem} (ai:sB B)
include ai
theorem lS:ah Tryz.prog B oB:=ah.none _ _
def oC:Env:=oB.add 194 yH
theorem r7:ah Tryz.prog B oC:=ah.add (lS ai) (EZ ai)
def oD:Env:=oC.add 171 ll
theorem xT:ah Tryz.prog B oD:=(r7 ai).p pm (FV _ rfl rfl)
def oE:Env:=oD.add 179 mc
theorem xU:ah Tryz.prog B oE:=(xT ai).p pm (FW _ ao)
def oF:Env:=oE.add 184 me
theorem xV:ah Tryz.prog B oF:=(xU ai).p pm (FY _ ao)
def oG:Env:=oF.add 183 sC
theorem xW:ah Tryz.prog B oG:=(xV ai).p pm (F0 _ ao)
def oH:Env:=oG.add 185 qa
theorem qF:ah Tryz.prog B oH:=(xW ai).p pm (FZ _ ao)
def oI:Env:=oH.add 151 ln
theorem qG:ah Tryz.prog B oI:=(qF ai).p pm (F2 _ ao ao ao ao)
def oJ:Env:=oI.add 152 mf
theorem xX:ah Tryz.prog B oJ:=(qG ai).p pm (F1 _)
def oK:Env:=oJ.add 134 h3
theorem xY:ah Tryz.prog B oK:=(xX ai).p pm (FB _)
def mN:Env:=oK.add 170 tV
theorem qt:ah Tryz.prog B mN:=(xY ai).p pm (FN _)
def mO:Env:=mN.add 159 sA
theorem v7:ah Tryz.prog B mO:=(qt ai).p pm (FO _)
def mP:Env:=mO.add 169 o1
theorem v8:ah Tryz.prog B mP:=(v7 ai).p pm (FP _ rfl rfl rfl rfl)
def mQ:Env:=mP.add 163 ki
theorem v9:ah Tryz.prog B mQ:=(v8 ai).p pm (Ft _)
def mR:Env:=mQ.add 173 sx
theorem wc:ah Tryz.prog B mR:=(v9 ai).o pm (FD _)
def mS:Env:=mR.add 143 il
theorem we:ah Tryz.prog B mS:=(wc ai).p pm (FJ _ rfl rfl rfl rfl)
def mT:Env:=mS.add 135 e9
theorem wh:ah Tryz.prog B mT:=(we ai).p pm (FQ _ rfl rfl rfl rfl rfl rfl)
def mU:Env:=mT.add 199 qd
theorem wi:ah Tryz.prog B mU:=(wh ai).p pm (F6 _ ao ao)
def mV:Env:=mU.add 82 hs
theorem wj:ah Tryz.prog B mV:=(wi ai).p pm (GW _ rfl rfl)
def mW:Env:=mV.add 23 sT
theorem wk:ah Tryz.prog B mW:=(wj ai).p pm (G5 _ rfl rfl)
def mX:Env:=mW.add 207 qe
theorem wm:ah Tryz.prog B mX:=(wk ai).p pm (F8 _ ao ao)
def mY:Env:=mX.add 208 tZ
theorem wo:ah Tryz.prog B mY:=(wm ai).p pm (Ge _)
def mZ:Env:=mY.add 87 sX
theorem wq:ah Tryz.prog B mZ:=(wo ai).p pm (Hi _)
def m0:Env:=mZ.add 85 mJ
theorem wu:ah Tryz.prog B m0:=(wq ai).p pm (GV _ rfl rfl)
def m1:Env:=m0.c9 162 jt
theorem wv:ah Tryz.prog B m1:=(wu ai).m pm fun a4 cs h=>Fp _ a4 cs h
def m2:Env:=m1.add 129 hp
theorem wx:ah Tryz.prog B m2:=(wv ai).p pm (FI _ rfl rfl rfl)
def m3:Env:=m2.add 138 vq
theorem wy:ah Tryz.prog B m3:=(wx ai).p pm (FT _ rfl rfl)
def m4:Env:=m3.add 192 sv
theorem wz:ah Tryz.prog B m4:=(wy ai).p pm (Fu _)
def m5:Env:=m4.c9 168 tP
theorem wA:ah Tryz.prog B m5:=(wz ai).m pm fun a4 cs h=>Fq _ rfl a4 cs h
def m6:Env:=m5.c9 172 tQ
theorem wB:ah Tryz.prog B m6:=(wA ai).m pm fun a4 cs h=>Fs _ rfl a4 cs h
def m7:Env:=m6.c9 167 oZ
theorem wC:ah Tryz.prog B m7:=(wB ai).m pm fun a4 cs h=>Fv _ rfl rfl rfl rfl rfl rfl a4 cs h
def m8:Env:=m7.add 133 ju
theorem wD:ah Tryz.prog B m8:=(wC ai).p pm (Fw _ rfl)
def m9:Env:=m8.add 191 sw
theorem wE:ah Tryz.prog B m9:=(wD ai).p pm (Fx _)
def na:Env:=m9.add 166 mb
theorem wF:ah Tryz.prog B na:=(wE ai).p pm (Fy _ rfl rfl)
def nb:Env:=na.add 131 iJ
theorem wG:ah Tryz.prog B nb:=(wF ai).p pm (Fz _ rfl rfl)
def nc:Env:=nb.add 139 iK
theorem wH:ah Tryz.prog B nc:=(wG ai).p pm (FA _ rfl rfl rfl)
def nd:Env:=nc.add 126 kM
theorem wI:ah Tryz.prog B nd:=(wH ai).p pm (FR _)
def nf:Env:=nd.add 84 kV
theorem wJ:ah Tryz.prog B nf:=(wI ai).p pm (GZ _ rfl rfl rfl rfl rfl rfl rfl rfl rfl rfl rfl rfl)
def ng:Env:=nf.add 76 pf
theorem wK:ah Tryz.prog B ng:=(wJ ai).p pm (GY _ rfl rfl)
def nh:Env:=ng.add 74 j0
theorem wL:ah Tryz.prog B nh:=(wK ai).p pm (G1 _ rfl rfl rfl rfl rfl rfl)
def ni:Env:=nh.add 88 qm
theorem wM:ah Tryz.prog B ni:=(wL ai).p pm (Hf _ rfl rfl)
def nj:Env:=ni.add 89 qn
theorem wN:ah Tryz.prog B nj:=(wM ai).p pm (Hh _ rfl rfl)
def nk:Env:=nj.add 132 o0
theorem wO:ah Tryz.prog B nk:=(wN ai).p pm (FC _ rfl rfl rfl)
def nm:Env:=nk.add 141 re
theorem nn:ah Tryz.prog B nm:=(wO ai).p pm (FU _ rfl rfl rfl rfl)
def np:Env:=nm.add 38 uF
theorem wP:ah Tryz.prog B np:=(nn ai).x pm ((nn ai).s pm (F4 _ rfl rfl)) (Hj _ rfl rfl rfl rfl rfl rfl)
def nq:Env:=np.add 32 jB
theorem wQ:ah Tryz.prog B nq:=(wP ai).p pm (G3 _ rfl rfl)
def nr:Env:=nq.add 36 lF
theorem wR:ah Tryz.prog B nr:=(wQ ai).p pm (G2 _ rfl rfl)
def ns:Env:=nr.add 86 vR
theorem wS:ah Tryz.prog B ns:=(wR ai).p pm (G7 _ rfl rfl)
def nt:Env:=ns.add 188 yM
theorem wT:ah Tryz.prog B nt:=ah.add (wS ai) (E2 B)
def nu:Env:=nt.add 161 vo
theorem wU:ah Tryz.prog B nu:=(wT ai).p pm (Gf _ rfl rfl)
def nv:Env:=nu.add 128 gN
theorem wV:ah Tryz.prog B nv:=(wU ai).p pm (FH _ rfl rfl)
def nw:Env:=nv.c9 142 o2
theorem wW:ah Tryz.prog B nw:=(wV ai).m pm fun a4 cs h=>F3 _ rfl rfl rfl rfl a4 cs h
def nx:Env:=nw.add 91 ph
theorem wX:ah Tryz.prog B nx:=(wW ai).p pm (G6 _ rfl rfl rfl rfl rfl rfl rfl rfl rfl)
def nz:Env:=nx.add 90 vS
theorem wY:ah Tryz.prog B nz:=(wX ai).p pm (G8 _ rfl rfl)
def nA:Env:=nz.c9 164 sy
theorem wZ:ah Tryz.prog B nA:=(wY ai).m pm fun a4 cs h=>FK _ rfl a4 cs h
def nB:Env:=nA.c9 202 tR
theorem w0:ah Tryz.prog B nB:=(wZ ai).m pm fun a4 cs h=>FE _ a4 cs h
def nC:Env:=nB.add 190 tS
theorem w1:ah Tryz.prog B nC:=(w0 ai).o pm (FF _ rfl rfl rfl)
def nD:Env:=nC.add 189 tU
theorem w2:ah Tryz.prog B nD:=(w1 ai).p pm (FG _ rfl rfl)
def nE:Env:=nD.c9 165 q9
theorem w3:ah Tryz.prog B nE:=(w2 ai).m pm fun a4 cs h=>FL _ rfl rfl rfl rfl rfl a4 cs h
def nF:Env:=nE.add 130 ra
theorem w4:ah Tryz.prog B nF:=(w3 ai).p pm (FM _ rfl rfl rfl rfl rfl rfl)
def nG:Env:=nF.add 79 uD
theorem w5:ah Tryz.prog B nG:=(w4 ai).p pm (G9 _ rfl rfl rfl rfl rfl rfl rfl rfl rfl rfl rfl rfl rfl rfl rfl rfl rfl rfl)
def nH:Env:=nG.add 78 vT
theorem w6:ah Tryz.prog B nH:=(w5 ai).p pm (Ha _ rfl rfl)
def nI:Env:=nH.add 77 mK
theorem w7:ah Tryz.prog B nI:=(w6 ai).p pm (Hb _ rfl rfl rfl rfl rfl rfl)
def nJ:Env:=nI.add 40 vU
theorem w8:ah Tryz.prog B nJ:=(w7 ai).p pm (Hd _ rfl rfl)
def nK:Env:=nJ.add 209 ri
theorem w9:ah Tryz.prog B nK:=(w8 ai).p pm (Ga _ ao ao ao ao)
def nL:Env:=nK.add 34 sV
theorem xa:ah Tryz.prog B nL:=(w9 ai).p pm (Hc _ rfl rfl)
def nM:Env:=nL.add 20 rR
theorem xb:ah Tryz.prog B nM:=(xa ai).p pm (He _ rfl rfl rfl rfl)
def nN:Env:=nM.add 212 rj
theorem nO:ah Tryz.prog B nN:=(xb ai).p pm (Gb _ ao ao)
def nP:Env:=nN.add 200 tY
theorem xc:ah Tryz.prog B nP:=(nO ai).x pm ((nO ai).s pm (Gg _ ao ao ao ao)) (Gh _ ao ao ao)
def nQ:Env:=nP.add 181 rk
theorem xd:ah Tryz.prog B nQ:=(xc ai).p pm (Gd _ ao ao ao ao)
def nR:Env:=nQ.add 198 tX
theorem xe:ah Tryz.prog B nR:=(xd ai).p pm (F7 _ ao ao ao ao ao)
def nS:Env:=nR.add 30 vQ
theorem xf:ah Tryz.prog B nS:=(xe ai).p pm (G4 _ rfl rfl rfl rfl)
def nT:Env:=nS.add 180 sD
theorem xg:ah Tryz.prog B nT:=(xf ai).p pm (F9 _ ao ao ao ao ao ao)
def nU:Env:=nT.add 148 rm
theorem xh:ah Tryz.prog B nU:=(xg ai).p pm (Gi _)
def nV:Env:=nU.add 150 rn
theorem xi:ah Tryz.prog B nV:=(xh ai).p pm (Gj _)
def nW:Env:=nV.add 147 lp
theorem xj:ah Tryz.prog B nW:=(xi ai).g pm (Gl _ ao ao ao ao ao)
def nX:Env:=nW.add 95 mL
theorem xk:ah Tryz.prog B nX:=(xj ai).p pm (Hp _ ao)
def nY:Env:=nX.add 97 mM
theorem xl:ah Tryz.prog B nY:=(xk ai).p pm (Hq _ ao)
def nZ:Env:=nY.add 206 uc
theorem n0:ah Tryz.prog B nZ:=(xl ai).p pm (Gr _)
def n1:Env:=nZ.add 197 mh
theorem xm:ah Tryz.prog B n1:=(n0 ai).x pm ((n0 ai).s pm (Gs _)) (Gt _ ao ao)
def n2:Env:=n1.add 176 rp
theorem xn:ah Tryz.prog B n2:=(xm ai).p pm (Gv _ ao ao ao ao ao ao)
def n3:Env:=n2.add 63 j2
theorem xo:ah Tryz.prog B n3:=(xn ai).p pm (Hr _)
def n4:Env:=n3.add 203 ua
theorem xp:ah Tryz.prog B n4:=(xo ai).p pm (Gn _ ao)
def n5:Env:=n4.add 178 qg
theorem xq:ah Tryz.prog B n5:=(xp ai).p pm (Gm _)
def n6:Env:=n5.add 204 ub
theorem xr:ah Tryz.prog B n6:=(xq ai).p pm (Gp _ ao)
def n7:Env:=n6.add 196 mg
theorem xt:ah Tryz.prog B n7:=(xr ai).p pm (Gq _ ao ao ao)
def n8:Env:=n7.add 175 mj
theorem xu:ah Tryz.prog B n8:=(xt ai).p pm (Gu _ ao)
def n9:Env:=n8.add 145 lq
theorem xv:ah Tryz.prog B n9:=(xu ai).p pm (Gx _ ao ao ao)
def oa:Env:=n9.add 177 rq
theorem xw:ah Tryz.prog B oa:=(xv ai).p pm (Gy _)
def ob:Env:=oa.add 146 ud
theorem xx:ah Tryz.prog B ob:=(xw ai).p pm (Gz _ ao ao)
def oc:Env:=ob.add 94 lJ
theorem xy:ah Tryz.prog B oc:=(xx ai).g pm (Ht _ ao ao ao ao)
def od:Env:=oc.add 44 dX
theorem xA:ah Tryz.prog B od:=(xy ai).p pm (Hu _ ao)
def oe:Env:=od.add 46 ed
theorem xB:ah Tryz.prog B oe:=(xA ai).p pm (Hv _ ao)
def og:Env:=oe.c9 100 kP
theorem xC:ah Tryz.prog B og:=(xB ai).m pm fun a4 cs h=>GC _ ao ao ao ao a4 cs h
def oh:Env:=og.c9 99 kX
theorem xD:ah Tryz.prog B oh:=(xC ai).m pm fun a4 cs h=>Hw _ rfl a4 cs h
def oi:Env:=oh.c9 98 kY
theorem xE:ah Tryz.prog B oi:=(xD ai).m pm fun a4 cs h=>Hx _ rfl a4 cs h
def oj:Env:=oi.add 102 ui
theorem xF:ah Tryz.prog B oj:=(xE ai).p pm (GD _)
def om:Env:=oj.add 103 uj
theorem xG:ah Tryz.prog B om:=(xF ai).p pm (GF _)
def oo:Env:=om.add 101 mm
theorem xH:ah Tryz.prog B oo:=(xG ai).p pm (GG _ ao ao)
def oq:Env:=oo.add 49 j3
theorem xI:ah Tryz.prog B oq:=(xH ai).p pm (Cb _ rfl ao)
def mn:Env:=oq.add 124 uh
theorem vr:ah Tryz.prog B mn:=(xI ai).p pm (GA _)
def mo:Env:=mn.add 70 rX
theorem vt:ah Tryz.prog B mo:=(vr ai).p pm (Hz _ ao)
def mq:Env:=mo.add 48 qv
theorem vu:ah Tryz.prog B mq:=(vt ai).p pm (HA _ ao)
def mr:Env:=mq.add 42 hP
theorem vv:ah Tryz.prog B mr:=(vu ai).p pm (HB _ ao ao ao ao)
def mv:Env:=mr.add 93 vW
theorem vw:ah Tryz.prog B mv:=(vv ai).p pm (Lg _)
def mw:Env:=mv.add 43 iy
theorem vx:ah Tryz.prog B mw:=(vw ai).p pm (Ls _ ao)
def mx:Env:=mw.add 107 o3
theorem vy:ah Tryz.prog B mx:=(vx ai).p pm (OH _)
def my:Env:=mx.add 117 qc
theorem vz:ah Tryz.prog B my:=(vy ai).p pm (OI _ ao)
def mz:Env:=my.add 61 rS
theorem vA:ah Tryz.prog B mz:=(vz ai).p pm (ahD _ ao ao)
def mA:Env:=mz.add 52 qw
theorem vB:ah Tryz.prog B mA:=(vA ai).p pm (VY _)
def o4:Env:=mA.add 110 lk
theorem vC:ah Tryz.prog B o4:=(vB ai).p pm (JQ _)
def rv:Env:=o4.add 156 jc
theorem zT:ah Tryz.prog B rv:=(vC ai).p pm (JM _)
def ry:Env:=rv.add 157 p9
theorem zU:ah Tryz.prog B ry:=(zT ai).p pm (JN _)
def rz:Env:=ry.add 144 jW
theorem zV:ah Tryz.prog B rz:=(zU ai).p pm (JU _ rfl rfl rfl rfl)
def rA:Env:=rz.add 109 fu
theorem zW:ah Tryz.prog B rA:=(zV ai).p pm (JV _ rfl rfl)
def rB:Env:=rA.add 53 ix
theorem zX:ah Tryz.prog B rB:=(zW ai).p pm (PX _ ao ao)
def rC:Env:=rB.add 116 ma
theorem zY:ah Tryz.prog B rC:=(zX ai).p pm (Oy _ rfl rfl)
def rD:Env:=rC.add 58 jz
theorem zZ:ah Tryz.prog B rD:=(zY ai).p pm (Pz _ rfl rfl rfl rfl)
def rE:Env:=rD.add 62 lE
theorem z0:ah Tryz.prog B rE:=(zZ ai).p pm (KU _)
def rF:Env:=rE.add 112 fB
theorem z1:ah Tryz.prog B rF:=(z0 ai).p pm (JT _ rfl rfl)
def rG:Env:=rF.add 113 js
theorem z2:ah Tryz.prog B rG:=(z1 ai).p pm (JO _ rfl rfl rfl rfl)
def rH:Env:=rG.add 114 fh
theorem z3:ah Tryz.prog B rH:=(z2 ai).p pm (JP _)
def sE:Env:=rH.add 115 jV
theorem z4:ah Tryz.prog B sE:=(z3 ai).p pm (JR _ rfl rfl rfl rfl rfl rfl)
def vD:Env:=sE.add 56 gn
theorem De:ah Tryz.prog B vD:=(z4 ai).p pm (K2 _ rfl rfl rfl rfl rfl rfl rfl rfl rfl rfl)
def yP:Env:=vD.add 80 ql
theorem Df:ah Tryz.prog B yP:=(De ai).p pm (KT _)
def BH:Env:=yP.add 57 gC
theorem J7:ah Tryz.prog B BH:=(Df ai).p pm (K3 _ rfl rfl rfl rfl rfl rfl)
def Dg:Env:=BH.add 8 H0
theorem J8:ah Tryz.prog B Dg:=(J7 ai).p pm (ay4 _ ao ao ao ao ao ao ao ao ao ao ao)
theorem ve:l8 Tryz.prog B 8 H0:=(J8 ai).1 8 H0 rfl
end
end RV.Dr
