/- Lemmas for a claim: an abstract machine for the translated code, proved sound, and contracts of functions. By an AI agent. -/
import Derived.Test.YtmdjhngbigfblaaGreatDoorRk
import Derived.Test.YtmdjhngbigfblaaGreatDoorRj
import Derived.Test.YtmdjhngbigfblaaGreatDoorRh
import Derived.Test.YtmdjhngbigfblaaGreatDoorRe
import Derived.Test.YtmdjhngbigfblaaGreatDoorRf
import Derived.Test.YtmdjhngbigfblaaGreatDoorRc
import Derived.Test.YtmdjhngbigfblaaGreatDoorRg
set_option linter.all false
namespace RV.Dr
open Go RV
set_option linter.unusedSimpArgs false
set_option linter.unusedVariables false
set_option maxRecDepth 100000
set_option maxHeartbeats 8000000
def Gj:bC where
 pre:=fun ds=>∃(gE xD:Int) (gF xE:Int) (n:Int),ds=[.agg [.int .i64 gE,.int .i64 xD],.agg [.int .i64 gF,.int .i64 xE],.int .u8 n]∧0≤n∧n<256
 res:=fun _=> .bool true
theorem JO (Γ:Env) (vU:Γ.has 37 hH) (kq:Γ.has 38 gh) (vV:Γ.has 39 hG) (j3:Γ.has 40 dm) (kQ:Γ.has 42 dB) (JE:Γ.has 12 hZ) (NX:Γ.has 53 rD) (xi:Γ.has 34 gP) (s5:Γ.has 28 gC) (xh:Γ.has 32 gO) (ag0:Γ.has 54 uy) (ds:List D) (h:Gj.pre ds):bT Γ Wy Cy ds fun d=>d=Gj.res ds:=by
 obtain⟨gE,xD,gF,xE,n,rfl,yv,yw⟩:=h
 have cu:∀ds,Gj.res ds= .bool true:=fun _=>rfl
 have wk:hH.pre []:=rfl
 have wm:hH.res []= .bool true:=rfl
 have im:gh.pre [.recs 2 [[.int .i64 gE,.int .i64 xD],[.int .i64 gF,.int .i64 xE]]]:=⟨_,rfl,fun r ar=>by
  simp only[List.mem_cons,List.not_mem_nil,or_false]at ar
  rcases ar with rfl|rfl
  ·exact⟨_,_,rfl⟩
  ·exact⟨_,_,rfl⟩,by simp⟩
 have rg:gh.res [.recs 2 [[.int .i64 gE,.int .i64 xD],[.int .i64 gF,.int .i64 xE]]]= .bool ((fZ [.int .i64 gE,.int .i64 xD] && fZ [.int .i64 gF,.int .i64 xE])):=by
  simp only[gh,List.all_cons,List.all_nil,Bool.and_true]
 rw[cu,fU]
 unfold Wy Cy
 refine b3 (fun s=>aT s 3 [.d (.int .i64 gE),.d (.int .i64 xD)]∧aT s 4 [.d (.int .i64 gF),.d (.int .i64 xE)]∧s.ag 2= .d (.int .u8 n)) (by simp (maxSteps:=2000000) only[↓al,ak,↓reduceIte,reduceCtorEq,Nat.reduceEqDiff,Nat.reduceLeDiff,Nat.reduceSub,Nat.reduceAdd,Int.reduceToNat,Nat.reducePow,Int.reducePow,Int.reduceLE,Int.reduceLT,IntKind.bits,aT]) ?_
 rintro s ⟨⟨aq,aW⟩,⟨aE,aS⟩,h2⟩
 refine b3 (fun s=>s.ag 7= .d (.bool true)∧aT s 3 [.d (.int .i64 gE),.d (.int .i64 xD)]∧aT s 4 [.d (.int .i64 gF),.d (.int .i64 xE)]∧s.ag 2= .d (.int .u8 n)) (by simp (maxSteps:=2000000) only[↓al,ak,↓reduceIte,reduceCtorEq,Nat.reduceEqDiff,Nat.reduceLeDiff,Nat.reduceSub,Nat.reduceAdd,Int.reduceToNat,Nat.reducePow,Int.reducePow,Int.reduceLE,Int.reduceLT,IntKind.bits,aq,aW,aE,aS,h2,aT,vU,wk,wm]) ?_
 clear aq aW aE aS h2
 rintro s ⟨aM,⟨aq,aW⟩,⟨aE,aS⟩,h2⟩
 refine b3 (fun s=>((fZ [.int .i64 gE,.int .i64 xD] && fZ [.int .i64 gF,.int .i64 xE]))=true∧s.ag 7= .d (.bool true)∧aT s 3 [.d (.int .i64 gE),.d (.int .i64 xD)]∧aT s 4 [.d (.int .i64 gF),.d (.int .i64 xE)]∧s.ag 2= .d (.int .u8 n)) ?_ ?_
 ·generalize ((fZ [.int .i64 gE,.int .i64 xD] && fZ [.int .i64 gF,.int .i64 xE]))=t at*
  cases t with
  |false=>simp (maxSteps:=2000000) only[↓al,ak,↓reduceIte,reduceCtorEq,Nat.reduceEqDiff,Nat.reduceLeDiff,Nat.reduceSub,Nat.reduceAdd,Int.reduceToNat,Nat.reducePow,Int.reducePow,Int.reduceLE,Int.reduceLT,IntKind.bits,aM,aq,aW,aE,aS,h2,aT,kq,im,rg,Bool.not_false]
  |true=>simp (maxSteps:=2000000) only[↓al,ak,↓reduceIte,reduceCtorEq,Nat.reduceEqDiff,Nat.reduceLeDiff,Nat.reduceSub,Nat.reduceAdd,Int.reduceToNat,Nat.reducePow,Int.reducePow,Int.reduceLE,Int.reduceLT,IntKind.bits,aM,aq,aW,aE,aS,h2,aT,kq,im,rg,Bool.not_true]
 clear aM aq aW aE aS h2 im rg
 rintro s ⟨bh,aM,⟨aq,aW⟩,⟨aE,aS⟩,h2⟩
 simp only[Bool.and_eq_true]at bh
 obtain⟨jy,rfl,ato,gj,ab⟩:=AV bh.1
 obtain⟨jz,rfl,atp,arU,Cr⟩:=AV bh.2
 obtain⟨ti,BL⟩:∃a,a=an gE jy:=⟨_,rfl⟩
 have SO:ti<1152921504606846976:=BL▸hv _ _
 have H9:a2 ti≤14:=by have:=qa gE (Q:=jy) (by omega);rw[←BL]at this;omega
 obtain⟨tj,BM⟩:∃a,a=an gF jz:=⟨_,rfl⟩
 have SP:tj<1152921504606846976:=BM▸hv _ _
 have Ia:a2 tj≤14:=by have:=qa gF (Q:=jz) (by omega);rw[←BM]at this;omega
 obtain⟨k,yx⟩:∃k:Nat,n % 70+1=(k:Int):=⟨(n % 70+1).toNat,by omega⟩
 have bE:1≤k:=by omega
 have bM:k≤70:=by omega
 have pE:d1.win 0 1:=by rw[←vS];exact sg (fun _=>by decide+kernel)
 have zt:bO d1:=win.up pE (by omega) (by omega)
 have Mr:cO d1:=win.up pE (by omega) (by omega)
 have rK:hG.pre [.int .u8 n]:=⟨n,rfl,yv,yw⟩
 have rL:hG.res [.int .u8 n]= .int .i64 k:=by rw[←yx];rfl
 try simp only[aI,aA,aZ]at rK rL
 refine bZ (fun s=>aT s 3 [.d (.int .i64 gE),.d (.int .i64 jy)]∧aT s 4 [.d (.int .i64 gF),.d (.int .i64 jz)]∧s.ag 7= .d (.bool true)∧s.ag 8= .d (.int .i64 k)) (by simp (maxSteps:=2000000) only[↓al,ak,↓reduceIte,reduceCtorEq,Nat.reduceEqDiff,Nat.reduceLeDiff,Nat.reduceSub,Nat.reduceAdd,Int.reduceToNat,Nat.reducePow,Int.reducePow,Int.reduceLE,Int.reduceLT,IntKind.bits,aM,aq,aW,aE,aS,h2,vV,rK,rL,bn,bf,aT]) ?_
 clear aM aq aW aE aS h2
 rintro s ⟨⟨aq,aW⟩,⟨aE,aS⟩,aM,aY⟩
 obtain⟨bt,bG,rn⟩:∃x y:a6,dR false ti k=⟨x,y⟩:=⟨_,_,rfl⟩
 have ki:eT ⟨bt,bG⟩ (eD false ti) k:=rn▸iK SO H9 (by omega)
 have jZ:=ki.ends (pj false ti)
 have fv:bt.win (-160) 2:=win.up jZ.1.1 (by omega) (by omega)
 have la:bO bt:=win.up fv (by omega) (by omega)
 have zd:cO bt:=win.up fv (by omega) (by omega)
 have gw:bG.win (-160) 2:=win.up jZ.1.2 (by omega) (by omega)
 have tD:bO bG:=win.up gw (by omega) (by omega)
 have ze:cO bG:=win.up gw (by omega) (by omega)
 have rM:dm.pre [.agg [.int .i64 gE,.int .i64 jy],.int .i64 k]:=⟨gE,jy,k,rfl,(by omega),(BL▸H9),by omega⟩
 have rN:dm.res [.agg [.int .i64 gE,.int .i64 jy],.int .i64 k]=aA ⟨bt,bG⟩:=by simp only[dm,Int.toNat_natCast,←BL,rn]
 try simp only[aI,aA,aZ]at rM rN
 refine bZ (fun s=>aT s 3 [.d (.int .i64 gE),.d (.int .i64 jy)]∧aT s 4 [.d (.int .i64 gF),.d (.int .i64 jz)]∧s.ag 7= .d (.bool true)∧s.ag 8= .d (.int .i64 k)∧aT s 9 (bf bt bG)) (by simp (maxSteps:=2000000) only[↓al,ak,↓reduceIte,reduceCtorEq,Nat.reduceEqDiff,Nat.reduceLeDiff,Nat.reduceSub,Nat.reduceAdd,Int.reduceToNat,Nat.reducePow,Int.reducePow,Int.reduceLE,Int.reduceLT,IntKind.bits,aq,aW,aE,aS,aM,aY,j3,rM,rN,bn,bf,aT]) ?_
 clear aq aW aE aS aM aY
 rintro s ⟨⟨aq,aW⟩,⟨aE,aS⟩,aM,aY,⟨bd,bL⟩⟩
 obtain⟨bH,bK,rp⟩:∃x y:a6,dR true ti k=⟨x,y⟩:=⟨_,_,rfl⟩
 have kj:eT ⟨bH,bK⟩ (eD true ti) k:=rp▸iK SO H9 (by omega)
 have j0:=kj.ends (pj true ti)
 have fw:bH.win (-160) 2:=win.up j0.1.1 (by omega) (by omega)
 have qd:bO bH:=win.up fw (by omega) (by omega)
 have zf:cO bH:=win.up fw (by omega) (by omega)
 have gx:bK.win (-160) 2:=win.up j0.1.2 (by omega) (by omega)
 have wO:bO bK:=win.up gx (by omega) (by omega)
 have zg:cO bK:=win.up gx (by omega) (by omega)
 have rO:dB.pre [.agg [.int .i64 gE,.int .i64 jy],.int .i64 k]:=⟨gE,jy,k,rfl,(by omega),(BL▸H9),by omega⟩
 have rP:dB.res [.agg [.int .i64 gE,.int .i64 jy],.int .i64 k]=aA ⟨bH,bK⟩:=by simp only[dB,Int.toNat_natCast,←BL,rp]
 try simp only[aI,aA,aZ]at rO rP
 refine bZ (fun s=>aT s 3 [.d (.int .i64 gE),.d (.int .i64 jy)]∧aT s 4 [.d (.int .i64 gF),.d (.int .i64 jz)]∧s.ag 7= .d (.bool true)∧s.ag 8= .d (.int .i64 k)∧aT s 9 (bf bt bG)∧aT s 10 (bf bH bK)) (by simp (maxSteps:=2000000) only[↓al,ak,↓reduceIte,reduceCtorEq,Nat.reduceEqDiff,Nat.reduceLeDiff,Nat.reduceSub,Nat.reduceAdd,Int.reduceToNat,Nat.reducePow,Int.reducePow,Int.reduceLE,Int.reduceLT,IntKind.bits,aq,aW,aE,aS,aM,aY,bd,bL,kQ,rO,rP,bn,bf,aT]) ?_
 clear aq aW aE aS aM aY bd bL
 rintro s ⟨⟨aq,aW⟩,⟨aE,aS⟩,aM,aY,⟨bd,bL⟩,⟨bI,du⟩⟩
 obtain⟨ev,ew,Ib⟩:∃x y:a6,dR false tj k=⟨x,y⟩:=⟨_,_,rfl⟩
 have EF:eT ⟨ev,ew⟩ (eD false tj) k:=Ib▸iK SP Ia (by omega)
 have EG:=EF.ends (pj false tj)
 have sn:ev.win (-160) 2:=win.up EG.1.1 (by omega) (by omega)
 have QV:bO ev:=win.up sn (by omega) (by omega)
 have QW:cO ev:=win.up sn (by omega) (by omega)
 have tE:ew.win (-160) 2:=win.up EG.1.2 (by omega) (by omega)
 have adr:bO ew:=win.up tE (by omega) (by omega)
 have QX:cO ew:=win.up tE (by omega) (by omega)
 have rQ:dm.pre [.agg [.int .i64 gF,.int .i64 jz],.int .i64 k]:=⟨gF,jz,k,rfl,(by omega),(BM▸Ia),by omega⟩
 have rR:dm.res [.agg [.int .i64 gF,.int .i64 jz],.int .i64 k]=aA ⟨ev,ew⟩:=by simp only[dm,Int.toNat_natCast,←BM,Ib]
 try simp only[aI,aA,aZ]at rQ rR
 refine bZ (fun s=>aT s 3 [.d (.int .i64 gE),.d (.int .i64 jy)]∧aT s 4 [.d (.int .i64 gF),.d (.int .i64 jz)]∧s.ag 7= .d (.bool true)∧s.ag 8= .d (.int .i64 k)∧aT s 9 (bf bt bG)∧aT s 10 (bf bH bK)∧aT s 11 (bf ev ew)) (by simp (maxSteps:=2000000) only[↓al,ak,↓reduceIte,reduceCtorEq,Nat.reduceEqDiff,Nat.reduceLeDiff,Nat.reduceSub,Nat.reduceAdd,Int.reduceToNat,Nat.reducePow,Int.reducePow,Int.reduceLE,Int.reduceLT,IntKind.bits,aq,aW,aE,aS,aM,aY,bd,bL,bI,du,j3,rQ,rR,bn,bf,aT]) ?_
 clear aq aW aE aS aM aY bd bL bI du
 rintro s ⟨⟨aq,aW⟩,⟨aE,aS⟩,aM,aY,⟨bd,bL⟩,⟨bI,du⟩,⟨cB,dk⟩⟩
 obtain⟨ey,ez,Ic⟩:∃x y:a6,dR true tj k=⟨x,y⟩:=⟨_,_,rfl⟩
 have EH:eT ⟨ey,ez⟩ (eD true tj) k:=Ic▸iK SP Ia (by omega)
 have EI:=EH.ends (pj true tj)
 have sq:ey.win (-160) 2:=win.up EI.1.1 (by omega) (by omega)
 have QY:bO ey:=win.up sq (by omega) (by omega)
 have QZ:cO ey:=win.up sq (by omega) (by omega)
 have tF:ez.win (-160) 2:=win.up EI.1.2 (by omega) (by omega)
 have ads:bO ez:=win.up tF (by omega) (by omega)
 have Q0:cO ez:=win.up tF (by omega) (by omega)
 have rS:dB.pre [.agg [.int .i64 gF,.int .i64 jz],.int .i64 k]:=⟨gF,jz,k,rfl,(by omega),(BM▸Ia),by omega⟩
 have rT:dB.res [.agg [.int .i64 gF,.int .i64 jz],.int .i64 k]=aA ⟨ey,ez⟩:=by simp only[dB,Int.toNat_natCast,←BM,Ic]
 try simp only[aI,aA,aZ]at rS rT
 refine bZ (fun s=>aT s 3 [.d (.int .i64 gE),.d (.int .i64 jy)]∧aT s 4 [.d (.int .i64 gF),.d (.int .i64 jz)]∧s.ag 7= .d (.bool true)∧s.ag 8= .d (.int .i64 k)∧aT s 9 (bf bt bG)∧aT s 10 (bf bH bK)∧aT s 11 (bf ev ew)∧aT s 12 (bf ey ez)) (by simp (maxSteps:=2000000) only[↓al,ak,↓reduceIte,reduceCtorEq,Nat.reduceEqDiff,Nat.reduceLeDiff,Nat.reduceSub,Nat.reduceAdd,Int.reduceToNat,Nat.reducePow,Int.reducePow,Int.reduceLE,Int.reduceLT,IntKind.bits,aq,aW,aE,aS,aM,aY,bd,bL,bI,du,cB,dk,kQ,rS,rT,bn,bf,aT]) ?_
 clear aq aW aE aS aM aY bd bL bI du cB dk
 rintro s ⟨⟨aq,aW⟩,⟨aE,aS⟩,aM,aY,⟨bd,bL⟩,⟨bI,du⟩,⟨cB,dk⟩,⟨b9,de⟩⟩
 refine bZ (fun s=>aT s 3 [.d (.int .i64 gE),.d (.int .i64 jy)]∧aT s 4 [.d (.int .i64 gF),.d (.int .i64 jz)]∧s.ag 7= .d (.bool true)∧s.ag 8= .d (.int .i64 k)∧aT s 9 (bf bt bG)∧aT s 10 (bf bH bK)∧aT s 11 (bf ev ew)∧aT s 12 (bf ey ez)∧s.ag 13= .d (.recs 6 [[.bool bt.neg,.ints .i64 (ao bt.m),.int .i64 bt.e,.bool bG.neg,.ints .i64 (ao bG.m),.int .i64 bG.e],[.bool bH.neg,.ints .i64 (ao bH.m),.int .i64 bH.e,.bool bK.neg,.ints .i64 (ao bK.m),.int .i64 bK.e],[.bool ev.neg,.ints .i64 (ao ev.m),.int .i64 ev.e,.bool ew.neg,.ints .i64 (ao ew.m),.int .i64 ew.e],[.bool ey.neg,.ints .i64 (ao ey.m),.int .i64 ey.e,.bool ez.neg,.ints .i64 (ao ez.m),.int .i64 ez.e]])) (by simp (maxSteps:=2000000) only[↓al,ak,↓reduceIte,reduceCtorEq,Nat.reduceEqDiff,Nat.reduceLeDiff,Nat.reduceSub,Nat.reduceAdd,Int.reduceToNat,Nat.reducePow,Int.reducePow,Int.reduceLE,Int.reduceLT,IntKind.bits,aq,aW,aE,aS,aM,aY,bd,bL,bI,du,cB,dk,b9,de,bn,bf,aT]) ?_
 clear aq aW aE aS aM aY bd bL bI du cB dk b9 de
 rintro s ⟨⟨aq,aW⟩,⟨aE,aS⟩,aM,aY,⟨bd,bL⟩,⟨bI,du⟩,⟨cB,dk⟩,⟨b9,de⟩,cH⟩
 obtain⟨rows,jE⟩:∃rows:List (List D),rows=[[.bool bt.neg,.ints .i64 (ao bt.m),.int .i64 bt.e,.bool bG.neg,.ints .i64 (ao bG.m),.int .i64 bG.e],[.bool bH.neg,.ints .i64 (ao bH.m),.int .i64 bH.e,.bool bK.neg,.ints .i64 (ao bK.m),.int .i64 bK.e],[.bool ev.neg,.ints .i64 (ao ev.m),.int .i64 ev.e,.bool ew.neg,.ints .i64 (ao ew.m),.int .i64 ew.e],[.bool ey.neg,.ints .i64 (ao ey.m),.int .i64 ey.e,.bool ez.neg,.ints .i64 (ao ez.m),.int .i64 ez.e]]:=⟨_,rfl⟩
 try simp only[bn,bf]at cH
 rw[←jE]at cH
 have hlen:rows.length=4:=by rw[jE];rfl
 have adn:(ao bt.m).length≤8:=by
  have h1:=fo bt.m
  by_cases h0:bt.m=0
  ·rw[h0,eE]at h1;rw[h0];omega
  ·have:=fv.2 h0;omega
 have ado:(ao bG.m).length≤8:=by
  have h1:=fo bG.m
  by_cases h0:bG.m=0
  ·rw[h0,eE]at h1;rw[h0];omega
  ·have:=gw.2 h0;omega
 have adp:(ao bH.m).length≤8:=by
  have h1:=fo bH.m
  by_cases h0:bH.m=0
  ·rw[h0,eE]at h1;rw[h0];omega
  ·have:=fw.2 h0;omega
 have adq:(ao bK.m).length≤8:=by
  have h1:=fo bK.m
  by_cases h0:bK.m=0
  ·rw[h0,eE]at h1;rw[h0];omega
  ·have:=gx.2 h0;omega
 have aml:(ao ev.m).length≤8:=by
  have h1:=fo ev.m
  by_cases h0:ev.m=0
  ·rw[h0,eE]at h1;rw[h0];omega
  ·have:=sn.2 h0;omega
 have amm:(ao ew.m).length≤8:=by
  have h1:=fo ew.m
  by_cases h0:ew.m=0
  ·rw[h0,eE]at h1;rw[h0];omega
  ·have:=tE.2 h0;omega
 have amn:(ao ey.m).length≤8:=by
  have h1:=fo ey.m
  by_cases h0:ey.m=0
  ·rw[h0,eE]at h1;rw[h0];omega
  ·have:=sq.2 h0;omega
 have amo:(ao ez.m).length≤8:=by
  have h1:=fo ez.m
  by_cases h0:ez.m=0
  ·rw[h0,eE]at h1;rw[h0];omega
  ·have:=tF.2 h0;omega
 have hC:∀i,i<4→∃x y:a6,rows.getD i []=[.bool x.neg,.ints .i64 (ao x.m),.int .i64 x.e,.bool y.neg,.ints .i64 (ao y.m),.int .i64 y.e]∧q6 x.neg (ao x.m) x.e y.neg (ao y.m) y.e=true∧(ao x.m).length≤8∧(ao y.m).length≤8:=by
  intro i hi
  rw[jE]
  rcases (by omega:i=0∨i=1∨i=2∨i=3)with rfl|rfl|rfl|rfl
  ·exact⟨bt,bG,rfl,y3 (win.up fv (by omega) (by omega)) (win.up gw (by omega) (by omega)) (by have:=jc la;have:=fv.2;by_cases h0:bt.m=0<;>first|(rw[h0,eE];omega)|(have:=fv.2 h0;omega)) (by by_cases h0:bG.m=0<;>first|(rw[h0,eE];omega)|(have:=gw.2 h0;omega)) jZ.2.1,adn,ado⟩
  ·exact⟨bH,bK,rfl,y3 (win.up fw (by omega) (by omega)) (win.up gx (by omega) (by omega)) (by have:=jc qd;have:=fw.2;by_cases h0:bH.m=0<;>first|(rw[h0,eE];omega)|(have:=fw.2 h0;omega)) (by by_cases h0:bK.m=0<;>first|(rw[h0,eE];omega)|(have:=gx.2 h0;omega)) j0.2.1,adp,adq⟩
  ·exact⟨ev,ew,rfl,y3 (win.up sn (by omega) (by omega)) (win.up tE (by omega) (by omega)) (by have:=jc QV;have:=sn.2;by_cases h0:ev.m=0<;>first|(rw[h0,eE];omega)|(have:=sn.2 h0;omega)) (by by_cases h0:ew.m=0<;>first|(rw[h0,eE];omega)|(have:=tE.2 h0;omega)) EG.2.1,aml,amm⟩
  ·exact⟨ey,ez,rfl,y3 (win.up sq (by omega) (by omega)) (win.up tF (by omega) (by omega)) (by have:=jc QY;have:=sq.2;by_cases h0:ey.m=0<;>first|(rw[h0,eE];omega)|(have:=sq.2 h0;omega)) (by by_cases h0:ez.m=0<;>first|(rw[h0,eE];omega)|(have:=tF.2 h0;omega)) EI.2.1,amn,amo⟩
 refine bZ (fun s=>aT s 3 [.d (.int .i64 gE),.d (.int .i64 jy)]∧aT s 4 [.d (.int .i64 gF),.d (.int .i64 jz)]∧s.ag 7= .d (.bool true)∧s.ag 8= .d (.int .i64 k)∧aT s 9 (bf bt bG)∧aT s 10 (bf bH bK)∧aT s 11 (bf ev ew)∧aT s 12 (bf ey ez)) ?_ ?_
 ·simp (maxSteps:=2000000) only[↓al,ak,↓reduceIte,reduceCtorEq,Nat.reduceEqDiff,Nat.reduceLeDiff,Nat.reduceSub,Nat.reduceAdd,Int.reduceToNat,Nat.reducePow,Int.reducePow,Int.reduceLE,Int.reduceLT,IntKind.bits,cH,aq,aW,aE,aS,aM,aY,bd,bL,bI,du,cB,dk,b9,de,bn,bf,aT]
  refine fp (fun s=>∃i:Nat,i≤4∧s.ag 14= .d (.int .i64 i)∧s.ag 13= .d (.recs 6 rows)∧aT s 3 [.d (.int .i64 gE),.d (.int .i64 jy)]∧aT s 4 [.d (.int .i64 gF),.d (.int .i64 jz)]∧s.ag 7= .d (.bool true)∧s.ag 8= .d (.int .i64 k)∧aT s 9 (bf bt bG)∧aT s 10 (bf bH bK)∧aT s 11 (bf ev ew)∧aT s 12 (bf ey ez)) (fun s=>match s.ag 14 with| .d (.int _ n)=>4 - n.toNat|_=>0) ?_ ?_
  ·refine⟨0,by omega,?_⟩
   simp (maxSteps:=2000000) only[↓al,ak,↓reduceIte,reduceCtorEq,Nat.reduceEqDiff,Nat.reduceLeDiff,Nat.reduceSub,Nat.reduceAdd,Int.reduceToNat,Nat.reducePow,Int.reducePow,Int.reduceLE,Int.reduceLT,IntKind.bits,cH,aq,aW,aE,aS,aM,aY,bd,bL,bI,du,cB,dk,b9,de,bn,bf,aT]
   try rfl
  clear cH aq aW aE aS aM aY bd bL bI du cB dk b9 de
  rintro s ⟨i,hi,dz,cH,⟨aq,aW⟩,⟨aE,aS⟩,aM,aY,⟨bd,bL⟩,⟨bI,du⟩,⟨cB,dk⟩,⟨b9,de⟩⟩
  have kr:=dz
  refine b3 (fun s=>(i:Int)<4∧s.ag 14= .d (.int .i64 i)∧s.ag 13= .d (.recs 6 rows)∧aT s 3 [.d (.int .i64 gE),.d (.int .i64 jy)]∧aT s 4 [.d (.int .i64 gF),.d (.int .i64 jz)]∧s.ag 7= .d (.bool true)∧s.ag 8= .d (.int .i64 k)∧aT s 9 (bf bt bG)∧aT s 10 (bf bH bK)∧aT s 11 (bf ev ew)∧aT s 12 (bf ey ez)) ?_ ?_
  ·have ag1:(rows.length:Int)=4:=by omega
   by_cases ci:(i:Int)<4
   ·simp (maxSteps:=2000000) only[↓al,ak,↓reduceIte,reduceCtorEq,Nat.reduceEqDiff,Nat.reduceLeDiff,Nat.reduceSub,Nat.reduceAdd,Int.reduceToNat,Nat.reducePow,Int.reducePow,Int.reduceLE,Int.reduceLT,IntKind.bits,dz,cH,aq,aW,aE,aS,aM,aY,bd,bL,bI,du,cB,dk,b9,de,ag1,ci,bn,bf,aT]
   ·simp (maxSteps:=2000000) only[↓al,ak,↓reduceIte,reduceCtorEq,Nat.reduceEqDiff,Nat.reduceLeDiff,Nat.reduceSub,Nat.reduceAdd,Int.reduceToNat,Nat.reducePow,Int.reducePow,Int.reduceLE,Int.reduceLT,IntKind.bits,dz,cH,aq,aW,aE,aS,aM,aY,bd,bL,bI,du,cB,dk,b9,de,ag1,ci,bn,bf,aT]
  clear dz cH aq aW aE aS aM aY bd bL bI du cB dk b9 de
  rintro s ⟨ci,dz,cH,⟨aq,aW⟩,⟨aE,aS⟩,aM,aY,⟨bd,bL⟩,⟨bI,du⟩,⟨cB,dk⟩,⟨b9,de⟩⟩
  refine b3 (fun s=>s.ag 14= .d (.int .i64 i)∧s.ag 13= .d (.recs 6 rows)∧aT s 3 [.d (.int .i64 gE),.d (.int .i64 jy)]∧aT s 4 [.d (.int .i64 gF),.d (.int .i64 jz)]∧s.ag 7= .d (.bool true)∧s.ag 8= .d (.int .i64 k)∧aT s 9 (bf bt bG)∧aT s 10 (bf bH bK)∧aT s 11 (bf ev ew)∧aT s 12 (bf ey ez)) ?_ ?_
  ·rw[k3]
   obtain⟨x,y,ar,aC,aj,hy⟩:=hC i (by omega)
   have gD:i<rows.length:=by omega
   have arV:(i:Int)<rows.length:=by omega
   have xB:hZ.pre [.agg [.bool x.neg,.ints .i64 (ao x.m),.int .i64 x.e,.bool y.neg,.ints .i64 (ao y.m),.int .i64 y.e]]:=⟨_,_,_,_,_,_,rfl,by omega,by omega⟩
   have jN:hZ.res [.agg [.bool x.neg,.ints .i64 (ao x.m),.int .i64 x.e,.bool y.neg,.ints .i64 (ao y.m),.int .i64 y.e]]= .bool true:=by simp only[hZ,aC]
   have arW:¬(((ao x.m).length:Int)>9):=by omega
   have d9:¬(((ao y.m).length:Int)>9):=by omega
   simp (maxSteps:=2000000) only[↓al,ak,↓reduceIte,reduceCtorEq,Nat.reduceEqDiff,Nat.reduceLeDiff,Nat.reduceSub,Nat.reduceAdd,Int.reduceToNat,Nat.reducePow,Int.reducePow,Int.reduceLE,Int.reduceLT,IntKind.bits,dz,cH,aq,aW,aE,aS,aM,aY,bd,bL,bI,du,cB,dk,b9,de,gD,arV,ar,Int.toNat_natCast,JE,xB,jN,Bool.not_true,arW,d9,bn,bf,aT]
   first|done|((repeat' apply And.intro)<;>first|assumption|with_reducible rfl|omega|(simp only[aO];omega)|exact⟨_,rfl⟩|exact⟨_,_,_,rfl⟩|exact⟨_,_,_,_,_,_,rfl⟩)
  clear dz cH aq aW aE aS aM aY bd bL bI du cB dk b9 de
  rintro s ⟨dz,cH,⟨aq,aW⟩,⟨aE,aS⟩,aM,aY,⟨bd,bL⟩,⟨bI,du⟩,⟨cB,dk⟩,⟨b9,de⟩⟩
  simp (maxSteps:=2000000) only[↓al,ak,↓reduceIte,reduceCtorEq,Nat.reduceEqDiff,Nat.reduceLeDiff,Nat.reduceSub,Nat.reduceAdd,Int.reduceToNat,Nat.reducePow,Int.reducePow,Int.reduceLE,Int.reduceLT,IntKind.bits,dz,cH,aq,aW,aE,aS,aM,aY,bd,bL,bI,du,cB,dk,b9,de,bn,bf,aT]
  refine⟨by simp only[aO];omega,⟨i+1,by omega,by omega⟩,?_⟩
  simp only[kr]
  omega
 clear cH aq aW aE aS aM aY bd bL bI du cB dk b9 de
 rintro s ⟨⟨aq,aW⟩,⟨aE,aS⟩,aM,aY,⟨bd,bL⟩,⟨bI,du⟩,⟨cB,dk⟩,⟨b9,de⟩⟩
 obtain⟨b1,wZ⟩:∃a,a=(ti+tj) % 1152921504606846976:=⟨_,rfl⟩
 have qk:b1<1152921504606846976:=by rw[wZ];omega
 have x8:a2 b1≤14:=by
  rw[u3 qk,wZ]
  have:=(u3 SO).1 H9;have:=(u3 SP).1 Ia;omega
 have rU:rD.pre [.agg [.int .i64 gE,.int .i64 jy],.agg [.int .i64 gF,.int .i64 jz]]:=⟨gE,jy,gF,jz,rfl,(by omega),(by omega),gj,arU⟩
 have rV:rD.res [.agg [.int .i64 gE,.int .i64 jy],.agg [.int .i64 gF,.int .i64 jz]]= .agg [.int .i64 (bS b1),.int .i64 (a2 b1)]:=by
  have q:(an (gE:Int) (jy)+an (gF:Int) (jz)) % 1152921504606846976=b1:=by rw[←BL,←BM,wZ]
  rw[←q];rfl
 try simp only[aI,aA,aZ]at rU rV
 refine bZ (fun s=>s.ag 7= .d (.bool true)∧s.ag 8= .d (.int .i64 k)∧aT s 9 (bf bt bG)∧aT s 10 (bf bH bK)∧aT s 11 (bf ev ew)∧aT s 12 (bf ey ez)∧aT s 15 [.d (.int .i64 (bS b1)),.d (.int .i64 (a2 b1))]) (by simp (maxSteps:=2000000) only[↓al,ak,↓reduceIte,reduceCtorEq,Nat.reduceEqDiff,Nat.reduceLeDiff,Nat.reduceSub,Nat.reduceAdd,Int.reduceToNat,Nat.reducePow,Int.reducePow,Int.reduceLE,Int.reduceLT,IntKind.bits,aq,aW,aE,aS,aM,aY,bd,bL,bI,du,cB,dk,b9,de,NX,rU,rV,bn,bf,aT]) ?_
 clear aq aW aE aS aM aY bd bL bI du cB dk b9 de
 rintro s ⟨aM,aY,⟨bd,bL⟩,⟨bI,du⟩,⟨cB,dk⟩,⟨b9,de⟩,⟨hq,iA⟩⟩
 obtain⟨xj,xk,aeZ⟩:∃x y:a6,dR false b1 k=⟨x,y⟩:=⟨_,_,rfl⟩
 have ae0:eT ⟨xj,xk⟩ (eD false b1) k:=aeZ▸iK qk x8 (by omega)
 have ae1:=ae0.ends (pj false b1)
 have adt:xj.win (-160) 2:=win.up ae1.1.1 (by omega) (by omega)
 have amp:bO xj:=win.up adt (by omega) (by omega)
 have ar1:cO xj:=win.up adt (by omega) (by omega)
 have adu:xk.win (-160) 2:=win.up ae1.1.2 (by omega) (by omega)
 have amq:bO xk:=win.up adu (by omega) (by omega)
 have ar2:cO xk:=win.up adu (by omega) (by omega)
 have qA:dm.pre [.agg [.int .i64 (bS b1),.int .i64 (a2 b1)],.int .i64 k]:=⟨bS b1,a2 b1,k,rfl,(by have:=p9 b1;omega),(by rw[jf qk];exact x8),by omega⟩
 have qB:dm.res [.agg [.int .i64 (bS b1),.int .i64 (a2 b1)],.int .i64 k]=aA ⟨xj,xk⟩:=by simp only[dm,Int.toNat_natCast,jf qk,aeZ]
 try simp only[aI,aA,aZ]at qA qB
 obtain⟨dP,w0⟩:∃z,z=(cP ⟨bt,bG⟩ ⟨ev,ew⟩).lo:=⟨_,rfl⟩
 have EE:dP.win (-320) 4:=by rw[w0];exact win.up (r6 (win.up (lo':= -160) (hi':=2) fv (by omega) (by omega)) (win.up gw (by omega) (by omega)) (win.up (lo':= -160) (hi':=2) sn (by omega) (by omega)) (win.up tE (by omega) (by omega))).1 (by omega) (by omega)
 have Ms:bO dP:=win.up EE (by omega) (by omega)
 have anM:cO dP:=win.up EE (by omega) (by omega)
 obtain⟨eP,ql⟩:∃z,z=(cP ⟨bt,bG⟩ ⟨ev,ew⟩).hi:=⟨_,rfl⟩
 have x9:eP.win (-320) 4:=by rw[ql];exact win.up (r6 (win.up (lo':= -160) (hi':=2) fv (by omega) (by omega)) (win.up gw (by omega) (by omega)) (win.up (lo':= -160) (hi':=2) sn (by omega) (by omega)) (win.up tE (by omega) (by omega))).2 (by omega) (by omega)
 have BI:bO eP:=win.up x9 (by omega) (by omega)
 have aeY:cO eP:=win.up x9 (by omega) (by omega)
 have qC:gP.pre [aA ⟨bt,bG⟩,aA ⟨ev,ew⟩]:=⟨⟨bt,bG⟩,⟨ev,ew⟩,rfl,⟨zd,ze⟩,⟨QW,QX⟩⟩
 have qD:gP.res [aA ⟨bt,bG⟩,aA ⟨ev,ew⟩]=aA ⟨dP,eP⟩:=by rw[w0,ql];simp only[gP,jd];try rfl
 try simp only[aI,aA,aZ]at qC qD
 obtain⟨pd,zH⟩:∃z,z=(cP ⟨bH,bK⟩ ⟨ey,ez⟩).lo:=⟨_,rfl⟩
 have EJ:pd.win (-320) 4:=by rw[zH];exact win.up (r6 (win.up (lo':= -160) (hi':=2) fw (by omega) (by omega)) (win.up gx (by omega) (by omega)) (win.up (lo':= -160) (hi':=2) sq (by omega) (by omega)) (win.up tF (by omega) (by omega))).1 (by omega) (by omega)
 have ae2:bO pd:=win.up EJ (by omega) (by omega)
 have anN:cO pd:=win.up EJ (by omega) (by omega)
 obtain⟨gk,tS⟩:∃z,z=(cP ⟨bH,bK⟩ ⟨ey,ez⟩).hi:=⟨_,rfl⟩
 have wX:gk.win (-320) 4:=by rw[tS];exact win.up (r6 (win.up (lo':= -160) (hi':=2) fw (by omega) (by omega)) (win.up gx (by omega) (by omega)) (win.up (lo':= -160) (hi':=2) sq (by omega) (by omega)) (win.up tF (by omega) (by omega))).2 (by omega) (by omega)
 have H7:bO gk:=win.up wX (by omega) (by omega)
 have aeW:cO gk:=win.up wX (by omega) (by omega)
 have rW:gP.pre [aA ⟨bH,bK⟩,aA ⟨ey,ez⟩]:=⟨⟨bH,bK⟩,⟨ey,ez⟩,rfl,⟨zf,zg⟩,⟨QZ,Q0⟩⟩
 have rX:gP.res [aA ⟨bH,bK⟩,aA ⟨ey,ez⟩]=aA ⟨pd,gk⟩:=by rw[zH,tS];simp only[gP,jd];try rfl
 try simp only[aI,aA,aZ]at rW rX
 obtain⟨gl,tT⟩:∃z,z=dx gk:=⟨_,rfl⟩
 have wY:gl.win (-320) 4:=by rw[tT];exact iJ wX
 have EC:bO gl:=win.up wY (by omega) (by omega)
 have aeX:cO gl:=win.up wY (by omega) (by omega)
 obtain⟨o9,zu⟩:∃z,z=dx pd:=⟨_,rfl⟩
 have BH:o9.win (-320) 4:=by rw[zu];exact iJ EJ
 have SL:bO o9:=win.up BH (by omega) (by omega)
 have anJ:cO o9:=win.up BH (by omega) (by omega)
 have pQ:gC.pre [aA ⟨pd,gk⟩]:=⟨⟨pd,gk⟩,rfl⟩
 have pR:gC.res [aA ⟨pd,gk⟩]=aA ⟨gl,o9⟩:=by rw[tT,zu];simp only[gC,jd];try rfl
 try simp only[aI,aA,aZ]at pQ pR
 obtain⟨pb,zv⟩:∃z,z=dZ dP gl:=⟨_,rfl⟩
 have ED:pb.win (-320) 5:=by rw[zv];exact qL (win.up (lo':= -320) (hi':=4) EE (by omega) (by omega)) (win.up wY (by omega) (by omega))
 have SM:bO pb:=win.up ED (by omega) (by omega)
 have anK:cO pb:=win.up ED (by omega) (by omega)
 obtain⟨pc,zw⟩:∃z,z=dZ eP o9:=⟨_,rfl⟩
 have H8:pc.win (-320) 5:=by rw[zw];exact qL (win.up (lo':= -320) (hi':=4) x9 (by omega) (by omega)) (win.up BH (by omega) (by omega))
 have SN:bO pc:=win.up H8 (by omega) (by omega)
 have anL:cO pc:=win.up H8 (by omega) (by omega)
 have sJ:gO.pre [aA ⟨dP,eP⟩,aA ⟨gl,o9⟩]:=⟨⟨dP,eP⟩,⟨gl,o9⟩,rfl,⟨Ms,BI⟩,⟨EC,SL⟩⟩
 have sK:gO.res [aA ⟨dP,eP⟩,aA ⟨gl,o9⟩]=aA ⟨pb,pc⟩:=by rw[zv,zw];simp only[gO,jd];try rfl
 try simp only[aI,aA,aZ]at sJ sK
 have vB:uy.pre [aA ⟨xj,xk⟩,aA ⟨pb,pc⟩]:=⟨⟨xj,xk⟩,⟨pb,pc⟩,rfl,⟨amp,amq⟩,⟨SM,SN⟩⟩
 have vC:uy.res [aA ⟨xj,xk⟩,aA ⟨pb,pc⟩]= .bool true:=by
  have q:(decide (ej xj pc≤0) && decide (ej pb xk≤0))=true:=by
   have q:=QA (Db ki.pD EF.pD) (alj (Db kj.pD EH.pD))
   have o:eD false b1=eD false ti*eD false tj+ -(eD true ti*eD true tj):=by
    rw[yu,wZ,RR.Hm,RR.y6];simp only[RR.bF.mul,yu,Co];grind
   rw[←o]at q
   have m:=aa4 ae0.pD q
   simp only[dJ,dd]at m
   simp only[←w0,←ql,←zH,←tS,←tT,←zu,←zv,←zw]at m
   rw[decide_eq_true m.1,decide_eq_true m.2];rfl
  simp only[uy,jd,q]
 try simp only[aI,aA,aZ]at vB vC
 obtain⟨xl,xm,ae3⟩:∃x y:a6,dR true b1 k=⟨x,y⟩:=⟨_,_,rfl⟩
 have ae4:eT ⟨xl,xm⟩ (eD true b1) k:=ae3▸iK qk x8 (by omega)
 have ae5:=ae4.ends (pj true b1)
 have adv:xl.win (-160) 2:=win.up ae5.1.1 (by omega) (by omega)
 have amr:bO xl:=win.up adv (by omega) (by omega)
 have ar3:cO xl:=win.up adv (by omega) (by omega)
 have adw:xm.win (-160) 2:=win.up ae5.1.2 (by omega) (by omega)
 have ams:bO xm:=win.up adw (by omega) (by omega)
 have ar4:cO xm:=win.up adw (by omega) (by omega)
 have zx:dB.pre [.agg [.int .i64 (bS b1),.int .i64 (a2 b1)],.int .i64 k]:=⟨bS b1,a2 b1,k,rfl,(by have:=p9 b1;omega),(by rw[jf qk];exact x8),by omega⟩
 have zy:dB.res [.agg [.int .i64 (bS b1),.int .i64 (a2 b1)],.int .i64 k]=aA ⟨xl,xm⟩:=by simp only[dB,Int.toNat_natCast,jf qk,ae3]
 try simp only[aI,aA,aZ]at zx zy
 obtain⟨kR,Bi⟩:∃z,z=(cP ⟨bH,bK⟩ ⟨ev,ew⟩).lo:=⟨_,rfl⟩
 have Dm:kR.win (-320) 4:=by rw[Bi];exact win.up (r6 (win.up (lo':= -160) (hi':=2) fw (by omega) (by omega)) (win.up gx (by omega) (by omega)) (win.up (lo':= -160) (hi':=2) sn (by omega) (by omega)) (win.up tE (by omega) (by omega))).1 (by omega) (by omega)
 have QR:bO kR:=win.up Dm (by omega) (by omega)
 have amk:cO kR:=win.up Dm (by omega) (by omega)
 obtain⟨yy,Q1⟩:∃z,z=(cP ⟨bH,bK⟩ ⟨ev,ew⟩).hi:=⟨_,rfl⟩
 have Q2:yy.win (-320) 4:=by rw[Q1];exact win.up (r6 (win.up (lo':= -160) (hi':=2) fw (by omega) (by omega)) (win.up gx (by omega) (by omega)) (win.up (lo':= -160) (hi':=2) sn (by omega) (by omega)) (win.up tE (by omega) (by omega))).2 (by omega) (by omega)
 have amt:bO yy:=win.up Q2 (by omega) (by omega)
 have ar5:cO yy:=win.up Q2 (by omega) (by omega)
 have zz:gP.pre [aA ⟨bH,bK⟩,aA ⟨ev,ew⟩]:=⟨⟨bH,bK⟩,⟨ev,ew⟩,rfl,⟨zf,zg⟩,⟨QW,QX⟩⟩
 have zA:gP.res [aA ⟨bH,bK⟩,aA ⟨ev,ew⟩]=aA ⟨kR,yy⟩:=by rw[Bi,Q1];simp only[gP,jd];try rfl
 try simp only[aI,aA,aZ]at zz zA
 obtain⟨kS,Bj⟩:∃z,z=(cP ⟨bt,bG⟩ ⟨ey,ez⟩).lo:=⟨_,rfl⟩
 have Bk:kS.win (-320) 4:=by rw[Bj];exact win.up (r6 (win.up (lo':= -160) (hi':=2) fv (by omega) (by omega)) (win.up gw (by omega) (by omega)) (win.up (lo':= -160) (hi':=2) sq (by omega) (by omega)) (win.up tF (by omega) (by omega))).1 (by omega) (by omega)
 have Q3:bO kS:=win.up Bk (by omega) (by omega)
 have amu:cO kS:=win.up Bk (by omega) (by omega)
 obtain⟨oI,Bl⟩:∃z,z=(cP ⟨bt,bG⟩ ⟨ey,ez⟩).hi:=⟨_,rfl⟩
 have Bm:oI.win (-320) 4:=by rw[Bl];exact win.up (r6 (win.up (lo':= -160) (hi':=2) fv (by omega) (by omega)) (win.up gw (by omega) (by omega)) (win.up (lo':= -160) (hi':=2) sq (by omega) (by omega)) (win.up tF (by omega) (by omega))).2 (by omega) (by omega)
 have Q4:bO oI:=win.up Bm (by omega) (by omega)
 have amv:cO oI:=win.up Bm (by omega) (by omega)
 have zB:gP.pre [aA ⟨bt,bG⟩,aA ⟨ey,ez⟩]:=⟨⟨bt,bG⟩,⟨ey,ez⟩,rfl,⟨zd,ze⟩,⟨QZ,Q0⟩⟩
 have zC:gP.res [aA ⟨bt,bG⟩,aA ⟨ey,ez⟩]=aA ⟨kS,oI⟩:=by rw[Bj,Bl];simp only[gP,jd];try rfl
 try simp only[aI,aA,aZ]at zB zC
 obtain⟨oJ,Bn⟩:∃z,z=dZ kR kS:=⟨_,rfl⟩
 have Dn:oJ.win (-320) 5:=by rw[Bn];exact qL (win.up (lo':= -320) (hi':=4) Dm (by omega) (by omega)) (win.up Bk (by omega) (by omega))
 have Q5:bO oJ:=win.up Dn (by omega) (by omega)
 have amw:cO oJ:=win.up Dn (by omega) (by omega)
 obtain⟨oK,Bo⟩:∃z,z=dZ yy oI:=⟨_,rfl⟩
 have Hz:oK.win (-320) 5:=by rw[Bo];exact qL (win.up (lo':= -320) (hi':=4) Q2 (by omega) (by omega)) (win.up Bm (by omega) (by omega))
 have Q6:bO oK:=win.up Hz (by omega) (by omega)
 have amx:cO oK:=win.up Hz (by omega) (by omega)
 have zD:gO.pre [aA ⟨kR,yy⟩,aA ⟨kS,oI⟩]:=⟨⟨kR,yy⟩,⟨kS,oI⟩,rfl,⟨QR,amt⟩,⟨Q3,Q4⟩⟩
 have zE:gO.res [aA ⟨kR,yy⟩,aA ⟨kS,oI⟩]=aA ⟨oJ,oK⟩:=by rw[Bn,Bo];simp only[gO,jd];try rfl
 try simp only[aI,aA,aZ]at zD zE
 have zF:uy.pre [aA ⟨xl,xm⟩,aA ⟨oJ,oK⟩]:=⟨⟨xl,xm⟩,⟨oJ,oK⟩,rfl,⟨amr,ams⟩,⟨Q5,Q6⟩⟩
 have zG:uy.res [aA ⟨xl,xm⟩,aA ⟨oJ,oK⟩]= .bool true:=by
  have q:(decide (ej xl oK≤0) && decide (ej oJ xm≤0))=true:=by
   have q:=QA (Db kj.pD EF.pD) (Db ki.pD EH.pD)
   have o:eD true b1=eD true ti*eD false tj+eD false ti*eD true tj:=by
    rw[Co,wZ,RR.Hm,RR.y6];simp only[RR.bF.mul,yu,Co];grind
   rw[←o]at q
   have m:=aa4 ae4.pD q
   simp only[dJ,dd]at m
   simp only[←w0,←ql,←zH,←tS,←tT,←zu,←zv,←zw,←Bi,←Q1,←Bj,←Bl,←Bn,←Bo]at m
   rw[decide_eq_true m.1,decide_eq_true m.2];rfl
  simp only[uy,jd,q]
 try simp only[aI,aA,aZ]at zF zG
 refine bZ (fun s=>s.ag 6= .d (.bool true)) ?_ ?_
 rotate_left
 ·clear aM aY bd bL bI du cB dk b9 de hq iA
  rintro s aN
  simp (maxSteps:=2000000) only[↓al,ak,↓reduceIte,reduceCtorEq,Nat.reduceEqDiff,Nat.reduceLeDiff,Nat.reduceSub,Nat.reduceAdd,Int.reduceToNat,Nat.reducePow,Int.reducePow,Int.reduceLE,Int.reduceLT,IntKind.bits,aN,bn,bf,aT]
 rw[uQ,wx (by rfl)]
 refine hs 8 (fun s=>s.ag 8= .d (.int .i64 k)∧aT s 9 (bf bt bG)∧aT s 10 (bf bH bK)∧aT s 11 (bf ev ew)∧aT s 12 (bf ey ez)∧aT s 15 [.d (.int .i64 (bS b1)),.d (.int .i64 (a2 b1))]∧s.ag 78= .d (.bool true)∧s.ag 81= .agg (bf xj xk)∧s.ag 84= .agg (bf dP eP)) ?_ ?_
 ·simp only[List.take_succ_cons,List.take_zero]
  simp (maxSteps:=2000000) only[↓al,ak,↓reduceIte,reduceCtorEq,Nat.reduceEqDiff,Nat.reduceLeDiff,Nat.reduceSub,Nat.reduceAdd,Int.reduceToNat,Nat.reducePow,Int.reducePow,Int.reduceLE,Int.reduceLT,IntKind.bits,aM,aY,bd,bL,bI,du,cB,dk,b9,de,hq,iA,j3,xi,qA,qB,qC,qD,bn,bf,aT]
 clear aM aY bd bL bI du cB dk b9 de hq iA
 rintro s ⟨aY,⟨bd,bL⟩,⟨bI,du⟩,⟨cB,dk⟩,⟨b9,de⟩,⟨hq,iA⟩,ag2,ag3,ag4⟩
 simp only[List.drop_succ_cons,List.drop_zero]
 refine hs 8 (fun s=>s.ag 8= .d (.int .i64 k)∧aT s 9 (bf bt bG)∧aT s 10 (bf bH bK)∧aT s 11 (bf ev ew)∧aT s 12 (bf ey ez)∧aT s 15 [.d (.int .i64 (bS b1)),.d (.int .i64 (a2 b1))]∧s.ag 92= .d (.bool true)) ?_ ?_
 ·simp only[List.take_succ_cons,List.take_zero]
  simp (maxSteps:=2000000) only[↓al,ak,↓reduceIte,reduceCtorEq,Nat.reduceEqDiff,Nat.reduceLeDiff,Nat.reduceSub,Nat.reduceAdd,Int.reduceToNat,Nat.reducePow,Int.reducePow,Int.reduceLE,Int.reduceLT,IntKind.bits,aY,bd,bL,bI,du,cB,dk,b9,de,hq,iA,ag2,ag3,ag4,xi,s5,xh,ag0,rW,rX,pQ,pR,sJ,sK,vB,vC,bn,bf,aT]
 clear aY bd bL bI du cB dk b9 de hq iA ag2 ag3 ag4
 rintro s ⟨aY,⟨bd,bL⟩,⟨bI,du⟩,⟨cB,dk⟩,⟨b9,de⟩,⟨hq,iA⟩,NY⟩
 simp only[List.drop_succ_cons,List.drop_zero]
 refine hs 8 (fun s=>s.ag 92= .d (.bool true)∧s.ag 95= .agg (bf xl xm)∧s.ag 98= .agg (bf kR yy)∧s.ag 99= .agg (bf bt bG)∧s.ag 100= .agg (bf ey ez)) ?_ ?_
 ·simp only[List.take_succ_cons,List.take_zero]
  simp (maxSteps:=2000000) only[↓al,ak,↓reduceIte,reduceCtorEq,Nat.reduceEqDiff,Nat.reduceLeDiff,Nat.reduceSub,Nat.reduceAdd,Int.reduceToNat,Nat.reducePow,Int.reducePow,Int.reduceLE,Int.reduceLT,IntKind.bits,aY,bd,bL,bI,du,cB,dk,b9,de,hq,iA,NY,kQ,xi,zx,zy,zz,zA,bn,bf,aT]
 clear aY bd bL bI du cB dk b9 de hq iA NY
 rintro s ⟨NY,aqP,aqQ,aqR,anO⟩
 simp only[List.drop_succ_cons,List.drop_zero]
 simp (maxSteps:=2000000) only[↓al,ak,↓reduceIte,reduceCtorEq,Nat.reduceEqDiff,Nat.reduceLeDiff,Nat.reduceSub,Nat.reduceAdd,Int.reduceToNat,Nat.reducePow,Int.reducePow,Int.reduceLE,Int.reduceLT,IntKind.bits,NY,aqP,aqQ,aqR,anO,xi,xh,ag0,zB,zC,zD,zE,zF,zG,bn,bf,aT]
end RV.Dr
namespace RV.Dr
open Go Go.Proofs RV
set_option linter.unusedVariables false
set_option maxRecDepth 100000
set_option maxHeartbeats 4000000
theorem pm:Tryz.prog.follows .mixedOrders=true:=by kernel_rfl
def oT:Env:=Env.none
section
variable {B:Mem} (ad:sE B)
include ad
theorem wq:ae Tryz.prog B oT:=ae.none _ _
def oU:Env:=oT.add 142 wU
theorem oV:ae Tryz.prog B oU:=ae.add (wq ad) (Dg ad)
def oW:Env:=oU.add 123 kE
theorem oX:ae Tryz.prog B oW:=ae.add (oV ad) (ax pm (oV ad) (fn:=Tryz.f123) (by kernel_rfl) (by decide) t123 (Ef _ rfl rfl))
def oY:Env:=oW.add 111 lj
theorem jM:ae Tryz.prog B oY:=ae.add (oX ad) (ax pm (oX ad) (fn:=Tryz.f111) (by kernel_rfl) (by decide) t111 (Eg _ ⟨rfl,rfl,rfl⟩))
def oZ:Env:=oY.add 149 lk
theorem o0:ae Tryz.prog B oZ:=ae.add (jM ad) (ax pm (jM ad) (fn:=Tryz.f149) (by kernel_rfl) (by decide) DF (Ei _ ⟨rfl,rfl,rfl⟩))
def o1:Env:=oZ.add 148 sF
theorem o2:ae Tryz.prog B o1:=ae.add (o0 ad) (ax pm (o0 ad) (fn:=Tryz.f148) (by kernel_rfl) (by decide) DE (Ek _ ⟨rfl,rfl,rfl⟩))
def o3:Env:=o1.add 150 qg
theorem jL:ae Tryz.prog B o3:=ae.add (o2 ad) (ax pm (o2 ad) (fn:=Tryz.f150) (by kernel_rfl) (by decide) DG (Ej _ ⟨rfl,rfl,rfl⟩))
def o4:Env:=o3.add 134 q4
theorem ks:ae Tryz.prog B o4:=ae.add (jL ad) (ax pm (jL ad) (fn:=Tryz.f134) (by kernel_rfl) (by decide) t134 (Em _ ⟨rfl,rfl,rfl⟩ ⟨rfl,rfl,rfl⟩ ⟨rfl,rfl,rfl⟩ ⟨rfl,rfl,rfl⟩))
def o5:Env:=o4.add 86 iN
theorem o6:ae Tryz.prog B o5:=ae.add (ks ad) (ax pm (ks ad) (fn:=Tryz.f86) (by kernel_rfl) (by decide) t86 (Fa _))
def o7:Env:=o5.add 122 tP
theorem o8:ae Tryz.prog B o7:=ae.add (o6 ad) (ax pm (o6 ad) (fn:=Tryz.f122) (by kernel_rfl) (by decide) t122 (Ea _))
def lC:Env:=o7.add 126 sD
theorem jK:ae Tryz.prog B lC:=ae.add (o8 ad) (ax pm (o8 ad) (fn:=Tryz.f126) (by kernel_rfl) (by decide) t126 (Eb _))
def lD:Env:=lC.add 121 pA
theorem lE:ae Tryz.prog B lD:=ae.add (jK ad) (ax pm (jK ad) (fn:=Tryz.f121) (by kernel_rfl) (by decide) t121 (Ec _ rfl rfl rfl rfl))
def lF:Env:=lD.add 117 jV
theorem lG:ae Tryz.prog B lF:=ae.add (lE ad) (ax pm (lE ad) (fn:=Tryz.f117) (by kernel_rfl) (by decide) t117 (DU _))
def lH:Env:=lF.add 116 sB
theorem lI:ae Tryz.prog B lH:=ae.add (lG ad) (tt pm (lG ad) (fn:=Tryz.f116) (by kernel_rfl) (by decide) t116 (D2 _))
def lJ:Env:=lH.add 84 jH
theorem kr:ae Tryz.prog B lJ:=ae.add (lI ad) (ax pm (lI ad) (fn:=Tryz.f84) (by kernel_rfl) (by decide) t84 (Fc _ rfl rfl rfl rfl))
def lK:Env:=lJ.add 87 e1
theorem lL:ae Tryz.prog B lK:=ae.add (kr ad) (ax pm (kr ad) (fn:=Tryz.f87) (by kernel_rfl) (by decide) t87 (Ff _ rfl rfl rfl rfl rfl rfl))
def lM:Env:=lK.add 133 qi
theorem lN:ae Tryz.prog B lM:=ae.add (lL ad) (ax pm (lL ad) (fn:=Tryz.f133) (by kernel_rfl) (by decide) t133 (Ep _ ⟨rfl,rfl,rfl⟩ ⟨rfl,rfl,rfl⟩))
def lO:Env:=lM.add 64 hb
theorem lP:ae Tryz.prog B lO:=ae.add (lN ad) (ax pm (lN ad) (fn:=Tryz.f64) (by kernel_rfl) (by decide) t64 (Fh _ rfl rfl))
def lQ:Env:=lO.add 18 sW
theorem lR:ae Tryz.prog B lQ:=ae.add (lP ad) (ax pm (lP ad) (fn:=Tryz.f18) (by kernel_rfl) (by decide) t18 (Ft _ rfl rfl))
def lS:Env:=lQ.add 151 qj
theorem lT:ae Tryz.prog B lS:=ae.add (lR ad) (ax pm (lR ad) (fn:=Tryz.f151) (by kernel_rfl) (by decide) DH (Er _ ⟨rfl,rfl,rfl⟩ ⟨rfl,rfl,rfl⟩))
def lU:Env:=lS.add 152 tR
theorem lV:ae Tryz.prog B lU:=ae.add (lT ad) (ax pm (lT ad) (fn:=Tryz.f152) (by kernel_rfl) (by decide) DI (Ex _))
def lW:Env:=lU.add 70 s0
theorem lX:ae Tryz.prog B lW:=ae.add (lV ad) (ax pm (lV ad) (fn:=Tryz.f70) (by kernel_rfl) (by decide) t70 (FI _))
def lY:Env:=lW.add 67 lA
theorem lZ:ae Tryz.prog B lY:=ae.add (lX ad) (ax pm (lX ad) (fn:=Tryz.f67) (by kernel_rfl) (by decide) t67 (Fg _ rfl rfl))
def l0:Env:=lY.cg 118 je
theorem l1:ae Tryz.prog B l0:=ae.cg (lZ ad) (ei pm (lZ ad) (fn:=Tryz.f118) (by kernel_rfl) (by decide) t118 (fun bg cs h=>DR _ bg cs h))
def l2:Env:=l0.add 100 kg
theorem l3:ae Tryz.prog B l2:=ae.add (l1 ad) (ax pm (l1 ad) (fn:=Tryz.f100) (by kernel_rfl) (by decide) t100 (D6 _ rfl rfl rfl))
def l4:Env:=l2.add 106 vt
theorem l5:ae Tryz.prog B l4:=ae.add (l3 ad) (ax pm (l3 ad) (fn:=Tryz.f106) (by kernel_rfl) (by decide) t106 (Ed _ rfl rfl))
def l6:Env:=l4.add 140 sy
theorem l7:ae Tryz.prog B l6:=ae.add (l5 ad) (ax pm (l5 ad) (fn:=Tryz.f140) (by kernel_rfl) (by decide) t140 (DV _))
def l8:Env:=l6.cg 120 tJ
theorem l9:ae Tryz.prog B l8:=ae.cg (l7 ad) (ei pm (l7 ad) (fn:=Tryz.f120) (by kernel_rfl) (by decide) t120 (fun bg cs h=>DS _ rfl bg cs h))
def ma:Env:=l8.cg 132 tK
theorem mb:ae Tryz.prog B ma:=ae.cg (l9 ad) (ei pm (l9 ad) (fn:=Tryz.f132) (by kernel_rfl) (by decide) t132 (fun bg cs h=>DT _ rfl bg cs h))
def mc:Env:=ma.cg 119 py
theorem me:ae Tryz.prog B mc:=ae.cg (mb ad) (ei pm (mb ad) (fn:=Tryz.f119) (by kernel_rfl) (by decide) t119 (fun bg cs h=>DW _ rfl rfl rfl rfl rfl rfl bg cs h))
def mf:Env:=mc.add 85 jo
theorem mg:ae Tryz.prog B mf:=ae.add (me ad) (ax pm (me ad) (fn:=Tryz.f85) (by kernel_rfl) (by decide) t85 (E9 _ rfl))
def mh:Env:=mf.add 147 sA
theorem mj:ae Tryz.prog B mh:=ae.add (mg ad) (ax pm (mg ad) (fn:=Tryz.f147) (by kernel_rfl) (by decide) DD (DX _))
def ml:Env:=mh.add 131 lh
theorem mm:ae Tryz.prog B ml:=ae.add (mj ad) (ax pm (mj ad) (fn:=Tryz.f131) (by kernel_rfl) (by decide) t131 (DY _ rfl rfl))
def mn:Env:=ml.add 102 jW
theorem mo:ae Tryz.prog B mn:=ae.add (mm ad) (ax pm (mm ad) (fn:=Tryz.f102) (by kernel_rfl) (by decide) t102 (DZ _ rfl rfl))
def mq:Env:=mn.add 107 jX
theorem mr:ae Tryz.prog B mq:=ae.add (mo ad) (ax pm (mo ad) (fn:=Tryz.f107) (by kernel_rfl) (by decide) t107 (D0 _ rfl rfl rfl))
def mv:Env:=mq.add 98 kn
theorem mw:ae Tryz.prog B mv:=ae.add (mr ad) (ax pm (mr ad) (fn:=Tryz.f98) (by kernel_rfl) (by decide) t98 (Fi _))
def mx:Env:=mv.add 66 ko
theorem my:ae Tryz.prog B mx:=ae.add (mw ad) (ax pm (mw ad) (fn:=Tryz.f66) (by kernel_rfl) (by decide) t66 (Fl _ rfl rfl rfl rfl rfl rfl rfl rfl rfl rfl rfl rfl))
def mz:Env:=mx.add 58 pJ
theorem mA:ae Tryz.prog B mz:=ae.add (my ad) (ax pm (my ad) (fn:=Tryz.f58) (by kernel_rfl) (by decide) t58 (Fk _ rfl rfl))
def mB:Env:=mz.add 57 jI
theorem mC:ae Tryz.prog B mB:=ae.add (mA ad) (ax pm (mA ad) (fn:=Tryz.f57) (by kernel_rfl) (by decide) t57 (Fm _ rfl rfl rfl rfl rfl rfl))
def mD:Env:=mB.add 71 qv
theorem mE:ae Tryz.prog B mD:=ae.add (mC ad) (ax pm (mC ad) (fn:=Tryz.f71) (by kernel_rfl) (by decide) t71 (FF _ rfl rfl))
def mF:Env:=mD.add 72 qw
theorem mG:ae Tryz.prog B mF:=ae.add (mE ad) (ax pm (mE ad) (fn:=Tryz.f72) (by kernel_rfl) (by decide) t72 (FH _ rfl rfl))
def mH:Env:=mF.add 103 pz
theorem mI:ae Tryz.prog B mH:=ae.add (mG ad) (ax pm (mG ad) (fn:=Tryz.f103) (by kernel_rfl) (by decide) t103 (D1 _ rfl rfl rfl))
def mJ:Env:=mH.add 109 q3
theorem iO:ae Tryz.prog B mJ:=ae.add (mI ad) (ax pm (mI ad) (fn:=Tryz.f109) (by kernel_rfl) (by decide) t109 (Ee _ rfl rfl rfl rfl))
theorem vW:pw Tryz.prog B q8:=fun f C e=>by
 unfold q8 at e
 split at e
 ·rename_i h
  subst h
  simp only[Option.some.injEq]at e
  subst e
  exact tv pm (iO ad) (fn:=Tryz.f108) (by kernel_rfl) (by decide) t108 (Eo _ rfl rfl)
 ·cases e
def mK:Env:=mJ.add 33 uq
theorem mL:ae Tryz.prog B mK:=ae.add (iO ad) (tu pm (iO ad) (vW ad) (fn:=Tryz.f33) (by kernel_rfl) (by decide) t33 (FJ _ rfl rfl rfl rfl rfl rfl))
def mM:Env:=mK.add 27 jr
theorem mN:ae Tryz.prog B mM:=ae.add (mL ad) (ax pm (mL ad) (fn:=Tryz.f27) (by kernel_rfl) (by decide) t27 (Fq _ rfl rfl))
def mO:Env:=mM.add 31 kM
theorem mP:ae Tryz.prog B mO:=ae.add (mN ad) (ax pm (mN ad) (fn:=Tryz.f31) (by kernel_rfl) (by decide) t31 (Fp _ rfl rfl))
def mQ:Env:=mO.add 68 vM
theorem vX:ae Tryz.prog B mQ:=ae.add (mP ad) (ax pm (mP ad) (fn:=Tryz.f68) (by kernel_rfl) (by decide) t68 (Fx _ rfl rfl))
def mR:Env:=mQ.add 144 wW
theorem mS:ae Tryz.prog B mR:=ae.add (vX ad) (Dk B)
def mT:Env:=mR.add 128 vr
theorem mU:ae Tryz.prog B mT:=ae.add (mS ad) (ax pm (mS ad) (fn:=Tryz.f128) (by kernel_rfl) (by decide) t128 (Ey _ rfl rfl))
def mV:Env:=mT.add 99 jG
theorem mW:ae Tryz.prog B mV:=ae.add (mU ad) (ax pm (mU ad) (fn:=Tryz.f99) (by kernel_rfl) (by decide) t99 (Fb _ rfl rfl))
def mX:Env:=mV.cg 110 pB
theorem mY:ae Tryz.prog B mX:=ae.cg (mW ad) (ei pm (mW ad) (fn:=Tryz.f110) (by kernel_rfl) (by decide) t110 (fun bg cs h=>En _ rfl rfl rfl rfl bg cs h))
def mZ:Env:=mX.add 74 pK
theorem m0:ae Tryz.prog B mZ:=ae.add (mY ad) (ax pm (mY ad) (fn:=Tryz.f74) (by kernel_rfl) (by decide) t74 (Fw _ rfl rfl rfl rfl rfl rfl rfl rfl rfl))
def m1:Env:=mZ.add 73 vN
theorem m2:ae Tryz.prog B m1:=ae.add (m0 ad) (ax pm (m0 ad) (fn:=Tryz.f73) (by kernel_rfl) (by decide) t73 (Fy _ rfl rfl))
def m3:Env:=m1.cg 129 sC
theorem m4:ae Tryz.prog B m3:=ae.cg (m2 ad) (ei pm (m2 ad) (fn:=Tryz.f129) (by kernel_rfl) (by decide) t129 (fun bg cs h=>D7 _ rfl bg cs h))
def m5:Env:=m3.cg 154 tL
theorem m6:ae Tryz.prog B m5:=ae.cg (m4 ad) (ei pm (m4 ad) (fn:=Tryz.f154) (by kernel_rfl) (by decide) DK (fun bg cs h=>D3 _ bg cs h))
def m7:Env:=m5.add 146 tM
theorem m8:ae Tryz.prog B m7:=ae.add (m6 ad) (tt pm (m6 ad) (fn:=Tryz.f146) (by kernel_rfl) (by decide) DC (D4 _ rfl rfl rfl))
def m9:Env:=m7.add 145 tO
theorem na:ae Tryz.prog B m9:=ae.add (m8 ad) (ax pm (m8 ad) (fn:=Tryz.f145) (by kernel_rfl) (by decide) t145 (D5 _ rfl rfl))
def nb:Env:=m9.cg 130 q1
theorem nc:ae Tryz.prog B nb:=ae.cg (na ad) (ei pm (na ad) (fn:=Tryz.f130) (by kernel_rfl) (by decide) t130 (fun bg cs h=>D8 _ rfl rfl rfl rfl rfl bg cs h))
def nd:Env:=nb.add 101 q2
theorem nf:ae Tryz.prog B nd:=ae.add (nc ad) (ax pm (nc ad) (fn:=Tryz.f101) (by kernel_rfl) (by decide) t101 (D9 _ rfl rfl rfl rfl rfl rfl))
def ng:Env:=nd.add 61 um
theorem nh:ae Tryz.prog B ng:=ae.add (nf ad) (ax pm (nf ad) (fn:=Tryz.f61) (by kernel_rfl) (by decide) t61 (Fz _ rfl rfl rfl rfl rfl rfl rfl rfl rfl rfl rfl rfl rfl rfl rfl rfl rfl rfl))
def ni:Env:=ng.add 60 vO
theorem nj:ae Tryz.prog B ni:=ae.add (nh ad) (ax pm (nh ad) (fn:=Tryz.f60) (by kernel_rfl) (by decide) t60 (FA _ rfl rfl))
def nk:Env:=ni.add 59 lB
theorem nm:ae Tryz.prog B nk:=ae.add (nj ad) (ax pm (nj ad) (fn:=Tryz.f59) (by kernel_rfl) (by decide) t59 (FB _ rfl rfl rfl rfl rfl rfl))
def nn:Env:=nk.add 35 vP
theorem np:ae Tryz.prog B nn:=ae.add (nm ad) (ax pm (nm ad) (fn:=Tryz.f35) (by kernel_rfl) (by decide) t35 (FD _ rfl rfl))
def nq:Env:=nn.add 153 q9
theorem nr:ae Tryz.prog B nq:=ae.add (np ad) (ax pm (np ad) (fn:=Tryz.f153) (by kernel_rfl) (by decide) DJ (Et _ ⟨rfl,rfl,rfl⟩ ⟨rfl,rfl,rfl⟩ ⟨rfl,rfl,rfl⟩ ⟨rfl,rfl,rfl⟩))
def ns:Env:=nq.add 29 sY
theorem nt:ae Tryz.prog B ns:=ae.add (nr ad) (ax pm (nr ad) (fn:=Tryz.f29) (by kernel_rfl) (by decide) t29 (FC _ rfl rfl))
def nu:Env:=ns.add 15 rB
theorem nv:ae Tryz.prog B nu:=ae.add (nt ad) (ax pm (nt ad) (fn:=Tryz.f15) (by kernel_rfl) (by decide) t15 (FE _ rfl rfl rfl rfl))
def nw:Env:=nu.add 156 ra
theorem iP:ae Tryz.prog B nw:=ae.add (nv ad) (ax pm (nv ad) (fn:=Tryz.f156) (by kernel_rfl) (by decide) DM (Eu _ ⟨rfl,rfl,rfl⟩ ⟨rfl,rfl,rfl⟩))
theorem vY:pw Tryz.prog B qU:=fun f C e=>by
 unfold qU at e
 split at e
 ·rename_i h
  subst h
  simp only[Option.some.injEq]at e
  subst e
  exact tv pm (iP ad) (fn:=Tryz.f155) (by kernel_rfl) (by decide) DL (Ez _ ⟨rfl,rfl,rfl⟩ ⟨rfl,rfl,rfl⟩ ⟨rfl,rfl,rfl⟩ ⟨rfl,rfl,rfl⟩)
 ·cases e
def nx:Env:=nw.add 135 tQ
theorem nz:ae Tryz.prog B nx:=ae.add (iP ad) (tu pm (iP ad) (vY ad) (fn:=Tryz.f135) (by kernel_rfl) (by decide) t135 (EA _ ⟨rfl,rfl,rfl⟩ ⟨rfl,rfl,rfl⟩ ⟨rfl,rfl,rfl⟩))
def nA:Env:=nx.add 136 q5
theorem nB:ae Tryz.prog B nA:=ae.add (nz ad) (ax pm (nz ad) (fn:=Tryz.f136) (by kernel_rfl) (by decide) t136 (El _))
def nC:Env:=nA.add 113 rb
theorem nD:ae Tryz.prog B nC:=ae.add (nB ad) (ax pm (nB ad) (fn:=Tryz.f113) (by kernel_rfl) (by decide) t113 (Ew _ ⟨rfl,rfl,rfl⟩ ⟨rfl,rfl,rfl⟩ ⟨rfl,rfl,rfl⟩ ⟨rfl,rfl,rfl⟩))
def nE:Env:=nC.add 44 hF
theorem nF:ae Tryz.prog B nE:=ae.add (nD ad) (ax pm (nD ad) (fn:=Tryz.f44) (by kernel_rfl) (by decide) t44 (FL _ ⟨rfl,rfl,rfl⟩ ⟨rfl,rfl,rfl⟩ ⟨rfl,rfl,rfl⟩ ⟨rfl,rfl,rfl⟩ ⟨rfl,rfl,rfl⟩))
def nG:Env:=nE.add 25 vK
theorem nH:ae Tryz.prog B nG:=ae.add (nF ad) (ax pm (nF ad) (fn:=Tryz.f25) (by kernel_rfl) (by decide) t25 (Fs _ rfl rfl rfl rfl))
def nI:Env:=nG.add 112 sG
theorem nJ:ae Tryz.prog B nI:=ae.add (nH ad) (ax pm (nH ad) (fn:=Tryz.f112) (by kernel_rfl) (by decide) t112 (Es _ ⟨rfl,rfl,rfl⟩ ⟨rfl,rfl,rfl⟩ ⟨rfl,rfl,rfl⟩ ⟨rfl,rfl,rfl⟩ ⟨rfl,rfl,rfl⟩ ⟨rfl,rfl,rfl⟩))
def nK:Env:=nI.add 79 rF
theorem nL:ae Tryz.prog B nK:=ae.add (nJ ad) (ax pm (nJ ad) (fn:=Tryz.f79) (by kernel_rfl) (by decide) t79 (FN _))
def nM:Env:=nK.add 83 rG
theorem nN:ae Tryz.prog B nM:=ae.add (nL ad) (ax pm (nL ad) (fn:=Tryz.f83) (by kernel_rfl) (by decide) t83 (FO _))
def nO:Env:=nM.add 78 kP
theorem nP:ae Tryz.prog B nO:=ae.add (nN ad) (C8 pm (nN ad) (fn:=Tryz.f78) (by kernel_rfl) (by decide) t78 (FR _ ⟨rfl,rfl,rfl⟩ ⟨rfl,rfl,rfl⟩ ⟨rfl,rfl,rfl⟩ ⟨rfl,rfl,rfl⟩ ⟨rfl,rfl,rfl⟩))
def nQ:Env:=nO.add 40 dm
theorem nR:ae Tryz.prog B nQ:=ae.add (nP ad) (ax pm (nP ad) (fn:=Tryz.f40) (by kernel_rfl) (by decide) t40 (FT _ ⟨rfl,rfl,rfl⟩))
def nS:Env:=nQ.add 42 dB
theorem nT:ae Tryz.prog B nS:=ae.add (nR ad) (ax pm (nR ad) (fn:=Tryz.f42) (by kernel_rfl) (by decide) t42 (FU _ ⟨rfl,rfl,rfl⟩))
def nU:Env:=nS.add 124 iv
theorem nV:ae Tryz.prog B nU:=ae.add (nT ad) (ax pm (nT ad) (fn:=Tryz.f124) (by kernel_rfl) (by decide) t124 (DN _))
def nW:Env:=nU.add 125 px
theorem nX:ae Tryz.prog B nW:=ae.add (nV ad) (ax pm (nV ad) (fn:=Tryz.f125) (by kernel_rfl) (by decide) t125 (DP _))
def nY:Env:=nW.add 88 jn
theorem nZ:ae Tryz.prog B nY:=ae.add (nX ad) (ax pm (nX ad) (fn:=Tryz.f88) (by kernel_rfl) (by decide) t88 (E3 _ rfl rfl rfl rfl))
def n0:Env:=nY.add 76 dT
theorem n1:ae Tryz.prog B n0:=ae.add (nZ ad) (ax pm (nZ ad) (fn:=Tryz.f76) (by kernel_rfl) (by decide) t76 (E5 _ rfl rfl))
def n2:Env:=n0.add 90 uf
theorem n3:ae Tryz.prog B n2:=ae.add (n1 ad) (ax pm (n1 ad) (fn:=Tryz.f90) (by kernel_rfl) (by decide) t90 (E1 _))
def n4:Env:=n2.add 46 fK
theorem n5:ae Tryz.prog B n4:=ae.add (n3 ad) (ax pm (n3 ad) (fn:=Tryz.f46) (by kernel_rfl) (by decide) t46 (E8 _ rfl rfl rfl rfl))
def n6:Env:=n4.add 65 j2
theorem n7:ae Tryz.prog B n6:=ae.add (n5 ad) (ax pm (n5 ad) (fn:=Tryz.f65) (by kernel_rfl) (by decide) t65 (E0 _))
def n8:Env:=n6.add 24 eS
theorem n9:ae Tryz.prog B n8:=ae.add (n7 ad) (ax pm (n7 ad) (fn:=Tryz.f24) (by kernel_rfl) (by decide) t24 (E7 _ rfl rfl))
def oa:Env:=n8.add 19 gN
theorem ob:ae Tryz.prog B oa:=ae.add (n9 ad) (ax pm (n9 ad) (fn:=Tryz.f19) (by kernel_rfl) (by decide) t19 (Fu _))
def oc:Env:=oa.add 17 hr
theorem od:ae Tryz.prog B oc:=ae.add (ob ad) (ax pm (ob ad) (fn:=Tryz.f17) (by kernel_rfl) (by decide) t17 (Fv _ rfl rfl))
def oe:Env:=oc.add 37 hH
theorem og:ae Tryz.prog B oe:=ae.add (od ad) (ax pm (od ad) (fn:=Tryz.f37) (by kernel_rfl) (by decide) t37 (FX _ ⟨rfl,rfl,rfl⟩ ⟨rfl,rfl,rfl⟩ ⟨rfl,rfl,rfl⟩ ⟨rfl,rfl,rfl⟩ ⟨rfl,rfl,rfl⟩ ⟨rfl,rfl,rfl⟩ ⟨rfl,rfl,rfl⟩ ⟨rfl,rfl,rfl⟩))
def oh:Env:=oe.add 77 uw
theorem oi:ae Tryz.prog B oh:=ae.add (og ad) (ax pm (og ad) (fn:=Tryz.f77) (by kernel_rfl) (by decide) t77 (FK _))
def oj:Env:=oh.add 38 gh
theorem om:ae Tryz.prog B oj:=ae.add (oi ad) (ax pm (oi ad) (fn:=Tryz.f38) (by kernel_rfl) (by decide) t38 (FV _ ⟨rfl,rfl,rfl⟩))
def oo:Env:=oj.add 39 hG
theorem oq:ae Tryz.prog B oo:=ae.add (om ad) (ax pm (om ad) (fn:=Tryz.f39) (by kernel_rfl) (by decide) t39 (FW _))
def ou:Env:=oo.add 96 qt
theorem ov:ae Tryz.prog B ou:=ae.add (oq ad) (ax pm (oq ad) (fn:=Tryz.f96) (by kernel_rfl) (by decide) t96 (I2 _))
def ow:Env:=ou.add 55 hc
theorem ox:ae Tryz.prog B ow:=ae.add (ov ad) (ax pm (ov ad) (fn:=Tryz.f55) (by kernel_rfl) (by decide) t55 (Ji _ rfl rfl))
def oy:Env:=ow.add 48 gM
theorem oz:ae Tryz.prog B oy:=ae.add (ox ad) (ax pm (ox ad) (fn:=Tryz.f48) (by kernel_rfl) (by decide) t48 (E4 _))
def oA:Env:=oy.add 91 iB
theorem oB:ae Tryz.prog B oA:=ae.add (oz ad) (ax pm (oz ad) (fn:=Tryz.f91) (by kernel_rfl) (by decide) t91 (I3 _ rfl rfl))
def oC:Env:=oA.add 89 hY
theorem oD:ae Tryz.prog B oC:=ae.add (oB ad) (ax pm (oB ad) (fn:=Tryz.f89) (by kernel_rfl) (by decide) t89 (IX _ rfl rfl rfl rfl))
def oE:Env:=oC.add 92 fJ
theorem oF:ae Tryz.prog B oE:=ae.add (oD ad) (ax pm (oD ad) (fn:=Tryz.f92) (by kernel_rfl) (by decide) t92 (IZ _))
def pO:Env:=oE.add 93 lx
theorem pP:ae Tryz.prog B pO:=ae.add (oF ad) (ax pm (oF ad) (fn:=Tryz.f93) (by kernel_rfl) (by decide) t93 (I0 _ rfl rfl rfl rfl rfl rfl))
def rI:Env:=pO.add 50 g1
theorem rJ:ae Tryz.prog B rI:=ae.add (pP ad) (ax pm (pP ad) (fn:=Tryz.f50) (by kernel_rfl) (by decide) t50 (Fo _ rfl rfl rfl rfl rfl rfl rfl rfl rfl rfl))
def re:Env:=rI.add 62 qu
theorem rf:ae Tryz.prog B re:=ae.add (rJ ad) (ax pm (rJ ad) (fn:=Tryz.f62) (by kernel_rfl) (by decide) t62 (I6 _))
def rh:Env:=re.add 47 ef
theorem ri:ae Tryz.prog B rh:=ae.add (rf ad) (ax pm (rf ad) (fn:=Tryz.f47) (by kernel_rfl) (by decide) t47 (Jh _ rfl rfl rfl rfl rfl rfl))
def rj:Env:=rh.add 12 hZ
theorem rk:ae Tryz.prog B rj:=ae.add (ri ad) (ax pm (ri ad) (fn:=Tryz.f12) (by kernel_rfl) (by decide) t12 (Vy _ rfl rfl rfl rfl))
def rl:Env:=rj.add 80 kp
theorem rm:ae Tryz.prog B rl:=ae.add (rk ad) (ax pm (rk ad) (fn:=Tryz.f80) (by kernel_rfl) (by decide) t80 (NM _))
def sH:Env:=rl.add 95 rC
theorem sI:ae Tryz.prog B sH:=ae.add (rm ad) (ax pm (rm ad) (fn:=Tryz.f95) (by kernel_rfl) (by decide) t95 (VM _ ⟨rfl,rfl,rfl⟩))
def vu:Env:=sH.add 53 rD
theorem vv:ae Tryz.prog B vu:=ae.add (sI ad) (ax pm (sI ad) (fn:=Tryz.f53) (by kernel_rfl) (by decide) t53 (ags _ ⟨rfl,rfl,rfl⟩ ⟨rfl,rfl,rfl⟩))
def vw:Env:=vu.add 94 ly
theorem vx:ae Tryz.prog B vw:=ae.add (vv ad) (ax pm (vv ad) (fn:=Tryz.f94) (by kernel_rfl) (by decide) t94 (Nx _ rfl rfl))
def vy:Env:=vw.add 51 kL
theorem vz:ae Tryz.prog B vy:=ae.add (vx ad) (ax pm (vx ad) (fn:=Tryz.f51) (by kernel_rfl) (by decide) t51 (Ny _ rfl rfl rfl rfl))
def x6:Env:=vy.add 34 gP
theorem x7:ae Tryz.prog B x6:=ae.add (vz ad) (ax pm (vz ad) (fn:=Tryz.f34) (by kernel_rfl) (by decide) t34 (VK _ ⟨rfl,rfl,rfl⟩ ⟨rfl,rfl,rfl⟩ ⟨rfl,rfl,rfl⟩))
def H0:Env:=x6.add 28 gC
theorem H2:ae Tryz.prog B H0:=ae.add (x7 ad) (ax pm (x7 ad) (fn:=Tryz.f28) (by kernel_rfl) (by decide) t28 (VI _ ⟨rfl,rfl,rfl⟩))
def H3:Env:=H0.add 32 gO
theorem H4:ae Tryz.prog B H3:=ae.add (H2 ad) (ax pm (H2 ad) (fn:=Tryz.f32) (by kernel_rfl) (by decide) t32 (VJ _ ⟨rfl,rfl,rfl⟩))
def H5:Env:=H3.add 54 uy
theorem H6:ae Tryz.prog B H5:=ae.add (H4 ad) (ax pm (H4 ad) (fn:=Tryz.f54) (by kernel_rfl) (by decide) t54 (ap3 _ ⟨rfl,rfl,rfl⟩))
def Mp:Env:=H5.add 8 Gj
theorem Mq:ae Tryz.prog B Mp:=ae.add (H6 ad) (ax pm (H6 ad) (fn:=Tryz.f8) (by kernel_rfl) (by decide) t8 (JO _ ⟨rfl,rfl,rfl⟩ ⟨rfl,rfl,rfl⟩ ⟨rfl,rfl,rfl⟩ ⟨rfl,rfl,rfl⟩ ⟨rfl,rfl,rfl⟩ ⟨rfl,rfl,rfl⟩ ⟨rfl,rfl,rfl⟩ ⟨rfl,rfl,rfl⟩ ⟨rfl,rfl,rfl⟩ ⟨rfl,rfl,rfl⟩ ⟨rfl,rfl,rfl⟩))
theorem vf:ld Tryz.prog B 8 Gj:=(Mq ad).1 8 Gj rfl
end
end RV.Dr
