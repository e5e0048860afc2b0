/- Lemmas for a claim: an abstract machine for the translated code, proved sound, and contracts of functions. By an AI agent. -/
import Derived.Test.YtfnabehbkmlofaaGreatDoorRh
import Derived.Test.YtfnabehbkmlofaaGreatDoorRf
import Derived.Test.YtfnabehbkmlofaaGreatDoorRb
import Derived.ProofKit
import Derived.OpenShut
import Derived.ChangeSlices
import Derived.Test.YtfnabehbkmlofaaGreatDoorRe
set_option linter.all false
namespace RV.Dr
open Go RV RR
set_option linter.unusedSimpArgs false
set_option linter.unusedVariables false
set_option maxRecDepth 100000
def EU (y:R):Prop:=∀t,4503599627370496≤t→y+y≠eI t+eI (t+1)
theorem YK {t:Nat} (h:4503599627370496≤t):eI t+eI (t+1)=az (2*(hE t:Int)+1)*ax (iw t):=by
 rw[M5 h]
 unfold eI
 rw[gH,show (2:Int)*(hE t:Int)=(hE t:Int)+hE t by omega,gH,e2]
 grind
theorem aa2 (t:Nat):4503599627370496≤hE t∧hE t<9007199254740992:=by
 unfold hE
 have:=Nat.mod_lt t (show 4503599627370496>0 by decide)
 generalize t % 4503599627370496=z at*
 omega
theorem RG {t:Nat} {x δ:R} (h:4503599627370496≤t) (g:j1 x) (p:0<x) (qq:δ≤ax (-155)) (a:x+x≤eI t+eI (t+1)+(δ+δ)) (b:eI t+eI (t+1)≤x+x+(δ+δ)):False:=by
 rw[YK h]at a b
 obtain⟨ew,eN⟩:=aa2 t
 generalize hE t=N at*
 generalize iw t=Q at*
 have t1:ax (-155)<ax (-49):=by
  have e:ax (-49)=ax (-155)*ax 106:=by rw[←g7];rfl
  have p1:=c8 (-155)
  have l:ax 1≤ax 106:=iG (by omega)
  have aN:ax 1=1+1:=by rw[show (1:Int)=0+1 by rfl,fk];rfl
  have:=b0 (show 0≤ax 106 - (1+1)by grind) (show 0≤ax (-155)by grind)
  grind
 have h2:ax Q=ax (Q - 1)+ax (Q - 1):=by rw[←fk];congr 1;omega
 rw[h2]at a b
 have b7:x≤az (2*(N:Int)+1)*ax (Q - 1)+δ:=by grind
 have fm:az (2*(N:Int)+1)*ax (Q - 1)≤x+δ:=by grind
 clear a b h2
 by_cases bR:0≤Q - 1
 ·obtain⟨k,ad⟩:∃k:Nat,Q - 1=k:=⟨(Q - 1).toNat,by omega⟩
  rw[ad,←gj,←jo]at b7 fm
  have:=g 0 (by omega) ((2*(N:Int)+1)*2^k)
  rw[show ((0:Nat):Int)=0 by rfl,uY]at this
  grind
 ·by_cases bS: -105≤Q - 1
  ·obtain⟨n,aJ⟩:∃n:Nat,Q - 1= -(n:Int):=⟨(1 - Q).toNat,by omega⟩
   have:=g n (by omega) (2*(N:Int)+1)
   rw[aJ]at b7 fm
   have e:ax (n:Int)*ax (-(n:Int))=1:=oQ _
   have Wn:=c8 (n:Int)
   have aX:ax (-155)*ax (n:Int)≤ax (-50):=by rw[←g7];exact iG (by omega)
   have cc:δ*ax (n:Int)≤ax (-155)*ax (n:Int):=by
    have:=b0 (show 0≤ax (-155) - δ by grind) (show 0≤ax (n:Int)by grind)
    grind
   have e0:=b0 (show 0≤az (2*(N:Int)+1)*ax (-(n:Int))+δ - x by grind) (show 0≤ax (n:Int)by grind)
   have gw:=b0 (show 0≤x+δ - az (2*(N:Int)+1)*ax (-(n:Int))by grind) (show 0≤ax (n:Int)by grind)
   have HO:az (2*(N:Int)+1)*ax (-(n:Int))*ax (n:Int)=az (2*(N:Int)+1):=by
    rw[show az (2*(N:Int)+1)*ax (-(n:Int))*ax (n:Int)=az (2*(N:Int)+1)*(ax (n:Int)*ax (-(n:Int)))by grind,e]
    grind
   generalize az (2*(N:Int)+1)*ax (-(n:Int))=W at*
   generalize az (2*(N:Int)+1)=u at*
   generalize ax (n:Int)=T at*
   have az4:0≤u+δ*T - x*T:=by grind
   have az5:0≤x*T+δ*T - u:=by grind
   have dN:ax (-49)=ax (-50)+ax (-50):=by rw[←fk];rfl
   have:=c8 (-50)
   grind
  ·have cI:az (2*(N:Int)+1)≤ax 54:=by
    rw[show (54:Int)=((54:Nat):Int)by rfl,←gj,dU]
    have:(2:Int)^54=18014398509481984:=by decide
    omega
   have dS:ax (Q - 1)≤ax (-106):=iG (by omega)
   have p1:=c8 (Q - 1)
   have cq:=c8 54
   have e0:=b0 (show 0≤ax 54 - az (2*(N:Int)+1)by grind) (show 0≤ax (Q - 1)by grind)
   have gw:=b0 (show 0≤ax 54 by grind) (show 0≤ax (-106) - ax (Q - 1)by grind)
   have aN:ax 54*ax (-106)=ax (-52):=by rw[←g7];rfl
   have aX:ax (-49)=ax (-50)+ax (-50):=by rw[←fk];rfl
   have cc:ax (-52)≤ax (-51):=iG (by omega)
   have cN:ax (-155)≤ax (-51):=iG (by omega)
   have dN:ax (-50)=ax (-51)+ax (-51):=by rw[←fk];rfl
   have fK:=c8 (-51)
   have:=g 0 (by omega) 0
   rw[show ((0:Nat):Int)=0 by rfl,uY,jO]at this
   grind
theorem X2 {y:R} (g:j1 y) (p:0<y):EU y:=by
 intro t ae e
 have:=c8 (-155)
 exact RG (δ:=0) ae g p (by grind) (by grind) (by grind)
theorem Eg {y:R} (p:y≤0):EU y:=by
 intro t ae e
 have a:=u0 t
 have b:=u0 (t+1)
 grind
theorem X3:EU 1:=by
 intro t ae e
 rw[YK ae]at e
 obtain⟨ew,eN⟩:=aa2 t
 generalize hE t=N at*
 generalize iw t=Q at*
 have b8:(1:R)+1=az 2:=by rw[show (2:Int)=1+1 by rfl,gH,e2]
 rw[b8]at e
 by_cases c:0≤Q
 ·obtain⟨k,ad⟩:∃k:Nat,Q=k:=⟨Q.toNat,by omega⟩
  have l:az 2<az (2*(N:Int)+1):=l3.2 (by omega)
  have dS:ax 0≤ax Q:=iG c
  rw[uY]at dS
  have s5:az 0≤az (2*(N:Int)+1):=dU.2 (by omega)
  rw[jO]at s5
  have:=b0 s5 (show 0≤ax Q - 1 by grind)
  grind
 ·obtain⟨n,aJ⟩:∃n:Nat,Q= -((n+1:Nat):Int):=⟨(-Q).toNat - 1,by omega⟩
  rw[aJ]at e
  have h1:ax ((n+1:Nat):Int)*ax (-((n+1:Nat):Int))=1:=oQ _
  have h2:az 2*ax ((n+1:Nat):Int)=az (2*(N:Int)+1):=by
   rw[e,show az (2*(N:Int)+1)*ax (-((n+1:Nat):Int))*ax ((n+1:Nat):Int)=az (2*(N:Int)+1)*(ax ((n+1:Nat):Int)*ax (-((n+1:Nat):Int)))by grind,h1]
   grind
  rw[←gj,←jo]at h2
  have a:=dU.1 (show az (2*2^(n+1))≤az (2*(N:Int)+1)by grind)
  have b:=dU.1 (show az (2*(N:Int)+1)≤az (2*2^(n+1))by grind)
  omega
def HS (x:R):Prop:=EU x∧EU (-x)
theorem SD {x:R} (g:j1 x):ax (-49)≤x∨x+ax (-49)≤0:=by
 have:=g 0 (by omega) 0
 rw[show ((0:Nat):Int)=0 by rfl,uY,jO]at this
 grind
theorem aa3 {x:R} (g:j1 x):HS x:=by
 have p:=c8 (-49)
 rcases SD g with h|h
 ·exact⟨X2 g (by grind),Eg (by grind)⟩
 ·exact⟨Eg (by grind),X2 g.neg (by grind)⟩
theorem ZJ {x:R} {k:Int} (e:x=az k) (h: -1≤x∧x≤1):HS x:=by
 have h1:az (-1)≤az k:=by rw[hI,e2,←e];exact h.1
 have h2:az k≤az 1:=by rw[e2,←e];exact h.2
 rw[dU]at h1 h2
 have o:=uT
 rcases (by omega:k= -1∨k=0∨k=1)with rfl|rfl|rfl
 ·rw[hI,e2]at e
  subst e
  refine⟨Eg (by grind),?_⟩
  rw[show -(-1:R)=1 by grind];exact X3
 ·rw[jO]at e
  subst e
  exact⟨Eg (by grind),Eg (by grind)⟩
 ·rw[e2]at e
  subst e
  exact⟨X3,Eg (by grind)⟩
def km (x:R) (w:Nat):Prop:=(x=0∧w=0)∨∃(s:Bool) (r:Nat) (y:R),0<y∧x=(if s=true then -y else y)∧w=wd s r∧4503599627370497≤r∧r<9218868437227405311∧rV r y
theorem arD {s t:Bool} {r q:Nat} (h1:r<9223372036854775808) (h2:q<9223372036854775808) (h:wd s r=wd t q):s=t∧r=q:=by
 have a:=NJ (neg:=s) h1
 have b:=NJ (neg:=t) h2
 rw[h]at a
 exact⟨a.1.symm.trans b.1,a.2.symm.trans b.2⟩
theorem abA {s:Bool} {r:Nat} (h:4503599627370497≤r):wd s r≠0:=by unfold wd;split<;>omega
theorem km.fin {x:R} {w:Nat} (h:km x w):Fin w:=by
 rcases h with ⟨_,rfl⟩|⟨s,r,y,_,_,rfl,h1,h2,_⟩
 ·exact uU
 ·exact gZ (by omega) (by omega)
theorem km.lt {x:R} {w:Nat} (h:km x w):w<18446744073709551616:=by
 rcases h with ⟨_,rfl⟩|⟨s,r,y,_,_,rfl,h1,h2,_⟩
 ·decide
 ·exact CW (by omega)
theorem AV {d:a8} (aD:qf d):km (bc d) (cT d):=by
 rcases MM aD with ⟨e,h0⟩|⟨h0,r,h1,h2,e,hm⟩
 ·exact .inl ⟨IU h0,e⟩
 ·refine .inr ⟨d.neg,r,kO d,?_,Jg d,e,h1,h2,hm⟩
  have:=NK h0
  have a:=c8 (dC d)
  have b:az ((1:Nat):Int)≤az ((4503599627370496:Nat):Int):=oR.2 (by omega)
  rw[oN]at b
  have:=b0 (show 0≤az ((4503599627370496:Nat):Int) - 1 by grind) (show 0≤ax (dC d)by grind)
  grind
theorem ZK {r:Nat} {a b x:R} (h1:rV r a) (h2:rV r b) (cI:a≤x) (dS:x≤b):rV r x:=by
 unfold rV at*
 grind
theorem km.uniq {x:R} {w v:Nat} (h:km x w) (k:km x v) (n:HS x):w=v:=by
 rcases h with ⟨aj,rfl⟩|⟨s,r,y,jH,aj,rfl,h1,h2,hm⟩<;>rcases k with ⟨j6,rfl⟩|⟨t,q,z,r1,j6,rfl,bh,bB,Cl⟩
 ·rfl
 ·exfalso;rw[aj]at j6;split at j6<;>grind
 ·exfalso;rw[j6]at aj;split at aj<;>grind
 ·rw[aj]at j6
  have e:s=t∧y=z:=by
   cases s<;>cases t<;>simp only[Bool.false_eq_true,if_false,if_true]at j6
   ·exact⟨rfl,j6⟩
   ·exfalso;grind
   ·exfalso;grind
   ·exact⟨rfl,by grind⟩
  obtain⟨rfl,rfl⟩:=e
  have aJ:EU y:=by
   cases s<;>simp only[Bool.false_eq_true,if_false,if_true]at aj
   ·rw[←aj];exact n.1
   ·have:y= -x:=by grind
    rw[this];exact n.2
  rw[an6 h1 bh hm Cl aJ]
theorem km.mid {a b x:R} {w:Nat} (h:km a w) (k:km b w) (cI:a≤x) (dS:x≤b):km x w:=by
 rcases h with ⟨aj,rfl⟩|⟨s,r,y,jH,aj,hw,h1,h2,hm⟩<;>rcases k with ⟨j6,kw⟩|⟨t,q,z,r1,j6,kw,bh,bB,Cl⟩
 ·exact .inl ⟨by grind,rfl⟩
 ·exact absurd kw.symm (abA bh)
 ·rw[hw]at kw;exact absurd kw (abA h1)
 ·rw[hw]at kw
  obtain⟨rfl,rfl⟩:=arD (by omega) (by omega) kw
  cases s<;>simp only[Bool.false_eq_true,if_false,if_true]at aj j6
  ·exact .inr ⟨false,r,x,by grind,rfl,hw,h1,h2,ZK hm Cl (by grind) (by grind)⟩
  ·exact .inr ⟨true,r,-x,by grind,by simp only[if_true];grind,hw,h1,h2,ZK Cl hm (by grind) (by grind)⟩
theorem YL {r s:Nat} {a b x δ:R} (ar:4503599627370497≤r) (aE:4503599627370497≤s) (h:rV r a) (k:rV s b) (cI:a≤x) (dS:x≤b) (aD:b≤a+δ) (qq:δ≤ax (-155)) (g:j1 x) (p:0<x):r=s:=by
 rcases Nat.lt_trichotomy r s with l|l|l
 ·exfalso
  have e0:=qT (r:=r) (s:=s - 1) (by omega) (by omega)
  have gw:=qT (r:=r+1) (s:=s) (by omega) (by omega)
  have h2:=h.2
  have bh:=k.1
  exact RG (t:=r) (δ:=δ) (by omega) g p qq (by grind) (by grind)
 ·exact l
 ·exfalso
  have e0:=qT (r:=s) (s:=r - 1) (by omega) (by omega)
  have gw:=qT (r:=s+1) (s:=r) (by omega) (by omega)
  have h1:=h.1
  have bB:=k.2
  exact RG (t:=s) (δ:=δ) (by omega) g p qq (by grind) (by grind)
theorem km.close {a b x δ:R} {w v:Nat} (h:km a w) (k:km b v) (cI:a≤x) (dS:x≤b) (aD:b≤a+δ) (qq:δ≤ax (-155)) (g:j1 x):w=v:=by
 have p:=c8 (-49)
 have lt:ax (-155)<ax (-49):=by
  have e:ax (-48)=ax (-49)+ax (-49):=by rw[←fk];rfl
  have aX:ax (-49)=ax (-50)+ax (-50):=by rw[←fk];rfl
  have l:ax (-155)≤ax (-50):=iG (by omega)
  have:=c8 (-50)
  grind
 rcases SD g with P8|P8
 ·rcases h with ⟨aj,rfl⟩|⟨s,r,y,jH,aj,hw,h1,h2,hm⟩
  ·exfalso;grind
  rcases k with ⟨j6,kw⟩|⟨t,q,z,r1,j6,kw,bh,bB,Cl⟩
  ·exfalso;grind
  have es:s=false:=by cases s<;>simp only[Bool.false_eq_true,if_false,if_true]at aj<;>first|rfl|(exfalso;grind)
  have Aq:t=false:=by cases t<;>simp only[Bool.false_eq_true,if_false,if_true]at j6<;>first|rfl|(exfalso;grind)
  subst es;subst Aq
  simp only[Bool.false_eq_true,if_false]at aj j6
  subst aj;subst j6
  rw[hw,kw,YL h1 bh hm Cl cI dS aD qq g (by grind)]
 ·rcases h with ⟨aj,rfl⟩|⟨s,r,y,jH,aj,hw,h1,h2,hm⟩
  ·exfalso;grind
  rcases k with ⟨j6,kw⟩|⟨t,q,z,r1,j6,kw,bh,bB,Cl⟩
  ·exfalso;grind
  have es:s=true:=by cases s<;>simp only[Bool.false_eq_true,if_false,if_true]at aj<;>first|rfl|(exfalso;grind)
  have Aq:t=true:=by cases t<;>simp only[Bool.false_eq_true,if_false,if_true]at j6<;>first|rfl|(exfalso;grind)
  subst es;subst Aq
  simp only[if_true]at aj j6
  have zi:y= -a:=by grind
  have s7:z= -b:=by grind
  subst zi;subst s7
  rw[hw,kw,YL bh h1 Cl hm (x:= -x) (δ:=δ) (by grind) (by grind) (by grind) qq g.neg (by grind)]
end RV.Dr
namespace RV.Dr
open Go RV RR
set_option linter.unusedSimpArgs false
set_option linter.unusedVariables false
set_option maxRecDepth 100000
set_option maxHeartbeats 4000000
def uf:br where
 pre:=fun ds=>∃m:Nat,ds=[aZ m]∧a1 m≤62
 res:=fun ds=>match ds with
  |[.ints _ xs]=> .du [.int .i64 (val xs),.bool true]
  |_=> .nilp
theorem atK (Γ:Env) (tW:Γ.has 136 hZ) (ds:List D) (h:uf.pre ds):bK Γ adp adq ds fun d=>d=uf.res ds:=by
 obtain⟨m,rfl,aw⟩:=h
 have bO:uf.res [aZ m]= .du [.int .i64 m,.bool true]:=by simp only[uf,aZ,bT]
 rw[bO]
 have dz:=c4 m
 have hm:=ho.1 aw
 have hm:m<4611686018427387904:=hm
 have hlen:(au m).length≤3:=x7 (Nat.lt_of_lt_of_le hm (by decide))
 have ie:hZ.pre [.ints .i64 (au m)]:=⟨m,rfl,by omega⟩
 have hl:hZ.res [.ints .i64 (au m)]= .int .i64 (a1 m):=by simp only[hZ,bT]
 have aB:val (au m)=m:=bT m
 have dr:¬((a1 m:Int)>62):=by omega
 unfold aZ
 generalize au m=xs at*
 have DC:val (xs.drop xs.length)=0:=by rw[List.drop_length];rfl
 rw[gx]
 unfold adp adq
 refine bC (fun s=>s.af 0= .d (.ints .i64 xs)) ?_ ?_
 ·simp (maxSteps:=9^9) only[↓al,ak,simprocAttr]
 rintro s h0
 refine bC (fun s=>s.af 0= .d (.ints .i64 xs)) ?_ ?_
 ·simp (maxSteps:=9^9) only[↓al,ak,simprocAttr,h0,tW,ie,hl,dr]
 clear h0
 rintro s h0
 refine bC (fun s=>s.af 0= .d (.ints .i64 xs)∧s.af 4= .d (.int .i64 0)) ?_ ?_
 ·simp (maxSteps:=9^9) only[↓al,ak,simprocAttr,h0]
 clear h0
 rintro s ⟨h0,aK⟩
 refine cB (fun s=>s.af 4= .d (.int .i64 m)) ?_ ?_
 ·simp (maxSteps:=9^9) only[↓al,ak,simprocAttr,h0,aK]
  refine⟨by simp only[aI];omega,?_⟩
  refine eV (fun s=>∃j:Nat,j≤xs.length∧s.af 0= .d (.ints .i64 xs)∧s.af 4= .d (.int .i64 ((val (xs.drop j):Nat):Int))∧s.af 5= .d (.int .i64 ((j:Int) - 1)))
   (fun s=>match s.af 5 with| .d (.int _ n)=>(n+1).toNat|_=>0) ?_ ?_
  ·refine⟨xs.length,Nat.le_refl _,?_⟩
   rw[DC]
   simp (maxSteps:=9^9) only[↓al,ak,simprocAttr,h0,aK,Int.natCast_zero]
  clear h0 aK
  rintro s ⟨j,aF,h0,aK,aG⟩
  by_cases c:(j:Int) - 1≥0
  ·obtain⟨i,rfl⟩:∃i,j=i+1:=⟨j - 1,by omega⟩
   have aD:=qQ xs i
   have hle:=X1 dz i
   rw[aB]at hle
   obtain⟨x,aj⟩:∃x,x=xs.getD i 0:=⟨_,rfl⟩
   have ahZ:0≤x∧x<16777216:=by
    rw[aj,List.getD_eq_getElem?_getD,List.getElem?_eq_getElem (by omega)]
    exact dz _ (List.getElem_mem _)
   rw[←aj]at aD
   have sS:((i+1:Nat):Int) - 1=(i:Int):=by omega
   rw[sS]at aG c
   have Le:(i:Int)<(xs.length:Int):=by omega
   have atL:i<xs.length:=by omega
   have z5:xs.getD i 0=x:=aj.symm
   obtain⟨a,a6⟩:∃a,a=val (xs.drop (i+1)):=⟨_,rfl⟩
   obtain⟨b,ly⟩:∃b,b=val (xs.drop i):=⟨_,rfl⟩
   rw[←a6]at aK aD
   rw[←ly]at aD hle
   have awB:(a:Int)*16777216+x=(b:Int):=by omega
   have i1:aI ((a:Int)*16777216):=by simp only[aI];omega
   have i2:aI ((b:Nat):Int):=by simp only[aI];omega
   have i3:aI ((i:Int) - 1):=by simp only[aI];omega
   simp (maxSteps:=9^9) only[↓al,ak,simprocAttr,h0,aK,aG,c,Le,atL,Int.toNat_natCast,z5,i1,awB,i2,i3]
   exact⟨⟨i,by omega,by rw[←ly],rfl⟩,by omega⟩
  ·have:j=0:=by omega
   subst this
   rw[List.drop_zero,aB]at aK
   simp (maxSteps:=9^9) only[↓al,ak,simprocAttr,h0,aK,aG,c]
 ·clear h0 aK
  rintro s aK
  simp (maxSteps:=9^9) only[↓al,ak,simprocAttr,aK]
def zR:br where
 pre:=fun ds=>∃m:Nat,ds=[aZ m,.int .i64 ((a1 m:Int) - 53)]∧m≠0∧(au m).length≤8000
 res:=fun ds=>match ds with
  |[.ints _ xs,_]=> .int .i64 (lH (val xs))
  |_=> .nilp
theorem atM (Γ:Env) (rh:Γ.has 112 fB) (OG:Γ.has 144 jW) (aeG:Γ.has 201 uf) (atN:Γ.has 115 jV) (zP:Γ.has 114 fh) (ds:List D) (h:zR.pre ds):bK Γ TO Fm ds fun d=>d=zR.res ds:=by
 obtain⟨m,rfl,h0,aH⟩:=h
 have bO:zR.res [aZ m,.int .i64 ((a1 m:Int) - 53)]= .int .i64 (lH m):=by simp only[zR,aZ,bT]
 rw[bO]
 have aw:=x3 m
 have gQ:=qR h0
 obtain⟨ew,eN⟩:=Sf h0
 have ar:aI ((a1 m:Int) - 53):=by simp only[aI];omega
 by_cases ad:a1 m≤53
 ·have e:lH m=m*2^(53 - a1 m):=by unfold lH;rw[if_pos ad]
  rw[e]at ew eN⊢
  have c:((a1 m:Int) - 53≤0):=by omega
  have Ck:(0:Int) - ((a1 m:Int) - 53)=((53 - a1 m:Nat):Int):=by omega
  have iA:fB.pre [aZ m,.int .i64 ((53 - a1 m:Nat):Int)]:=⟨_,_,rfl,c4 _,by omega,by omega⟩
  have ic:fB.res [aZ m,.int .i64 ((53 - a1 m:Nat):Int)]=aZ (m*2^(53 - a1 m)):=by simp only[fB,aZ,bT,Int.toNat_natCast]
  generalize m*2^(53 - a1 m)=z at*
  have xO:uf.pre [aZ z]:=⟨z,rfl,ho.2 (Nat.lt_of_le_of_lt eN (by decide))⟩
  have xP:uf.res [aZ z]= .du [.int .i64 z,.bool true]:=by simp only[uf,aZ,bT]
  unfold aZ at*
  simp (maxSteps:=9^9) only[↓al,ak,simprocAttr,TO,Fm,c,Ck,rh,iA,ic,aeG,xO,xP]
  try (first|done|((repeat' apply And.intro)<;>first|assumption|with_reducible rfl|omega|(simp only[aI];omega)|exact⟨_,rfl⟩|exact⟨_,_,_,rfl⟩|exact⟨_,_,_,_,_,_,rfl⟩))
 ·obtain⟨K,b9⟩:∃K,a1 m - 53=K+1:=⟨a1 m - 54,by omega⟩
  have e:lH m=vY m (K+1):=by unfold lH;rw[if_neg ad,b9]
  rw[e]at ew eN⊢
  have ek:(a1 m:Int) - 53=((K+1:Nat):Int):=by omega
  rw[ek]
  have c:¬(((K+1:Nat):Int)≤0):=by omega
  have iA:jW.pre [aZ m,.int .i64 ((K+1:Nat):Int)]:=⟨_,_,rfl,c4 _,by omega,by omega⟩
  have ic:jW.res [aZ m,.int .i64 ((K+1:Nat):Int)]=aZ (m / 2^(K+1)):=by simp only[jW,aZ,bT,Int.toNat_natCast]
  have aO:a1 (m / 2^(K+1))=53:=by rw[Es];omega
  have KG:=Nat.div_add_mod m (2^(K+1))
  have vM:=Nat.mod_lt m (Nat.two_pow_pos (K+1))
  unfold vY at ew eN⊢
  rw[Nat.mul_comm]at KG
  have iL:a1 (m % 2^(K+1))≤a1 m:=tm (Nat.mod_le _ _)
  have DE:a1 (m / 2^(K+1)*2^(K+1))≤a1 m:=tm (by omega)
  have BV:a1 (2^(K+1))≤K+2:=ho.2 (Nat.pow_lt_pow_right (by decide) (by omega))
  have afe:=Cs (m % 2^(K+1)) 2
  have az6:a1 2=2:=by decide
  have ct:=gh (m % 2^(K+1))
  have db:=gh (m / 2^(K+1)*2^(K+1))
  have fc:=gh (2^(K+1))
  have xK:=gh (m / 2^(K+1))
  have Qd:=gh (m % 2^(K+1)*2)
  have jZ:=ho.1 (Nat.le_of_eq aO)
  have jZ:m / 2^(K+1)<9007199254740992:=jZ
  have HQ:fB.res [aZ (m / 2^(K+1)),.int .i64 ((K+1:Nat):Int)]=aZ (m / 2^(K+1)*2^(K+1)):=by simp only[fB,aZ,bT,Int.toNat_natCast]
  have cI:au 1=[1]:=by decide+kernel
  have r6:fB.res [.ints .i64 [1],.int .i64 ((K+1:Nat):Int)]=aZ (2^(K+1)):=by
   rw[←cI]
   simp only[fB,aZ,bT,Int.toNat_natCast,Nat.one_mul]
  have k2:fB.pre [.ints .i64 [1],.int .i64 ((K+1:Nat):Int)]:=⟨_,_,rfl,cI▸c4 1,by simp,by omega⟩
  have VS:m - m / 2^(K+1)*2^(K+1)=m % 2^(K+1):=by omega
  have bl:¬m<m / 2^(K+1)*2^(K+1):=by omega
  have qE:fB.res [aZ (m % 2^(K+1)),.int .i64 1]=aZ (m % 2^(K+1)*2):=by simp only[fB,aZ,bT];rfl
  generalize m / 2^(K+1)*2^(K+1)=P at*
  generalize m % 2^(K+1)=R at*
  generalize m / 2^(K+1)=Q at*
  generalize 2^(K+1)=H at*
  have qD:fB.pre [aZ R,.int .i64 1]:=⟨_,_,rfl,c4 _,by omega,by omega⟩
  have xO:uf.pre [aZ Q]:=⟨Q,rfl,by omega⟩
  have xP:uf.res [aZ Q]= .du [.int .i64 Q,.bool true]:=by simp only[uf,aZ,bT]
  have LV:fB.pre [aZ Q,.int .i64 ((K+1:Nat):Int)]:=⟨_,_,rfl,c4 _,by omega,by omega⟩
  have LW:jV.pre [aZ m,aZ P]:=⟨_,_,rfl,⟨m,rfl⟩,⟨P,rfl⟩,by omega,by omega⟩
  have LX:jV.res [aZ m,aZ P]= .du [aZ R,.bool true]:=by
   simp only[jV,aZ,bT]
   rw[if_neg bl,VS]
  have fp:fh.pre [aZ (R*2),aZ H]:=⟨_,_,rfl,⟨R*2,rfl⟩,⟨H,rfl⟩,by omega,by omega⟩
  have ey:fh.res [aZ (R*2),aZ H]= .int .i64 (if R*2<H then -1 else if H<R*2 then 1 else 0):=by simp only[fh,aZ,bT]
  unfold aZ at*
  refine bC (fun s=>s.af 0= .d (.ints .i64 (au m))∧s.af 1= .d (.int .i64 ((K+1:Nat):Int))) ?_ ?_
  ·simp (maxSteps:=9^9) only[↓al,ak,simprocAttr,TO]
  rintro s ⟨h0,h1⟩
  refine bC (fun s=>s.af 0= .d (.ints .i64 (au m))∧s.af 1= .d (.int .i64 ((K+1:Nat):Int))) ?_ ?_
  ·simp (maxSteps:=9^9) only[↓al,ak,simprocAttr,h0,h1,c]
  clear h0 h1
  rintro s ⟨h0,h1⟩
  refine bC (fun s=>s.af 0= .d (.ints .i64 (au m))∧s.af 1= .d (.int .i64 ((K+1:Nat):Int))∧s.af 7= .d (.ints .i64 (au Q))) ?_ ?_
  ·simp (maxSteps:=9^9) only[↓al,ak,simprocAttr,h0,h1,OG,iA,ic]
  clear h0 h1
  rintro s ⟨h0,h1,aS⟩
  refine bC (fun s=>s.af 0= .d (.ints .i64 (au m))∧s.af 1= .d (.int .i64 ((K+1:Nat):Int))∧s.af 7= .d (.ints .i64 (au Q))∧s.af 8= .d (.int .i64 Q)) ?_ ?_
  ·simp (maxSteps:=9^9) only[↓al,ak,simprocAttr,h0,h1,aS,aeG,xO,xP]
  clear h0 h1 aS
  rintro s ⟨h0,h1,aS,bn⟩
  refine bC (fun s=>s.af 1= .d (.int .i64 ((K+1:Nat):Int))∧s.af 8= .d (.int .i64 Q)∧s.af 10= .d (.ints .i64 (au R))) ?_ ?_
  ·simp (maxSteps:=9^9) only[↓al,ak,simprocAttr,h0,h1,aS,bn,rh,LV,HQ,atN,LW,LX]
  clear h0 h1 aS bn
  rintro s ⟨h1,bn,bI⟩
  have jF:((1:Int)==0)=false:=rfl
  have da:((0:Int)==0)=true:=rfl
  have WE:((-1:Int)==0)=false:=rfl
  have Qh:((1:Int)==1)=true:=rfl
  have Qe:((0:Int)==1)=false:=rfl
  have LY:aI ((Q:Int)+1):=by simp only[aI];omega
  have af:(Q:Int).tmod 2=((Q % 2:Nat):Int):=rfl
  rcases (by omega:R*2<H∨R*2=H∨H<R*2)with ay|ay|ay
  ·rw[if_pos ay]at ey
   rw[if_neg (by omega)]
   rw[Nat.add_zero]
   simp (maxSteps:=9^9) only[↓al,ak,simprocAttr,h1,bn,bI,Fm,rh,k2,r6,qD,qE,zP,fp,ey,WE,Int.reduceGT]
  ·rw[if_neg (by omega),if_neg (by omega)]at ey
   rcases (by omega:Q % 2=0∨Q % 2=1)with Lo|Lo
   ·rw[if_neg (by omega)]
    rw[Nat.add_zero]
    rw[Lo]at af
    have af:(Q:Int).tmod 2=0:=af
    simp (maxSteps:=9^9) only[↓al,ak,simprocAttr,h1,bn,bI,Fm,rh,k2,r6,qD,qE,zP,fp,ey,da,Qe,af,Int.reduceGT]
    try decide
   ·rw[if_pos (by omega)]
    rw[Lo]at af
    have af:(Q:Int).tmod 2=1:=af
    simp (maxSteps:=2000000) only[↓al,ak,↓reduceIte,reduceCtorEq,Nat.reduceEqDiff,Nat.reduceLeDiff,Nat.reduceSub,Nat.reduceAdd,Int.reduceToNat,Nat.reducePow,Int.reducePow,Int.reduceLE,Int.reduceLT,IntKind.bits,h1,bn,bI,Fm,LY,rh,k2,r6,qD,qE,zP,fp,ey,da,Qh,af,Int.reduceGT]
    exact⟨by decide,rfl⟩
  ·rw[if_neg (by omega),if_pos (by omega)]at ey
   rw[if_pos (by omega)]
   simp (maxSteps:=9^9) only[↓al,ak,simprocAttr,h1,bn,bI,Fm,LY,rh,k2,r6,qD,qE,zP,fp,ey,jF,Qh,Int.reduceGT]
   try rfl
end RV.Dr
namespace RV.Dr
open Go RV RR
set_option linter.unusedSimpArgs false
set_option linter.unusedVariables false
set_option maxRecDepth 100000
set_option maxHeartbeats 4000000
def ug:br where
 pre:=lq.pre
 res:=fun ds=>match ds with
  |[x]=> .flt (cT (fj x))
  |_=> .nilp
theorem atO (Γ:Env) (tW:Γ.has 136 hZ) (aeH:Γ.has 182 zR) (J3:Γ.has 175 mj) (ds:List D) (h:ug.pre ds):bK Γ Oo Oq ds fun d=>d=ug.res ds:=by
 obtain⟨d,rfl,aD,aH,KC,Dy⟩:=h
 have bO:ug.res [aV d]= .flt (cT d):=by simp only[ug,aV,aZ,ck]
 rw[bO]
 have ie:hZ.pre [.ints .i64 (au d.m)]:=⟨_,rfl,by omega⟩
 have hl:hZ.res [.ints .i64 (au d.m)]= .int .i64 (a1 d.m):=by simp only[hZ,bT]
 have aw:=x3 d.m
 unfold cT aV aZ
 by_cases h0:d.m=0
 ·rw[if_pos h0]
  rw[h0]at ie hl aw⊢
  rw[hv]at ie hl⊢
  simp (maxSteps:=9^9) only[↓al,ak,simprocAttr,Oo,Oq,List.length_nil,Int.natCast_zero,beq_self_eq_true]
 ·rw[if_neg h0]
  have hm:=aD h0
  obtain⟨ep,q,n,aN,aX,cc,ew,eN,cj,ej,bM,aW⟩:=aan h0 aD
  have gD:4503599627370496≤rg (dC d) (hD d):=by have:=(EG h0).1;unfold rg;omega
  have Ai:rg (dC d) (hD d)<9218868437227405312:=by
   rw[←cc,Jk cj bM];exact E4 eN bM aW
  have Az:zR.pre [.ints .i64 (au d.m),.int .i64 ((a1 d.m:Int) - 53)]:=⟨d.m,rfl,h0,aH⟩
  have AA:zR.res [.ints .i64 (au d.m),.int .i64 ((a1 d.m:Int) - 53)]= .int .i64 (lH d.m):=by simp only[zR,bT]
  obtain⟨e0,gw⟩:=Sf h0
  have im:=YJ e0 gw
  rw[aN]at im
  have LZ:mj.pre [.flt (rg ep n),.int .i64 q]:=⟨ep,q,n,rfl,ew,eN,cj,ej,bM,aW⟩
  have L0:mj.res [.flt (rg ep n),.int .i64 q]= .flt (rg (dC d) (hD d)):=by simp only[mj,mg,cc]
  have awC:hb (rg (dC d) (hD d))=wd true (rg (dC d) (hD d)):=IZ (s:=false) gD Ai
  have Lp:d.e+(a1 d.m:Int) - 1 - 52=q:=by rw[←aX];unfold dC;omega
  have ek:q - d.e=(a1 d.m:Int) - 53:=by rw[←aX];unfold dC;omega
  generalize rg (dC d) (hD d)=z at*
  generalize rg ep n=y at*
  generalize lH d.m=u at*
  have bp:(((au d.m).length:Int)==0)=false:=beq_false_of_ne (by have:=x2 h0;omega)
  have bR:¬(d.e+(a1 d.m:Int) - 1< -1080):=by omega
  have bS:¬(d.e+(a1 d.m:Int) - 1>1023):=by omega
  have hj:¬((-1074:Int)>q):=by omega
  have i1:aI (d.e+(a1 d.m:Int)):=by simp only[aI];omega
  have i2:aI (d.e+(a1 d.m:Int) - 1):=by simp only[aI];omega
  have i3:aI q:=by simp only[aI];omega
  have i4:aI ((a1 d.m:Int) - 53):=by simp only[aI];omega
  clear aD aN cc
  cases aJ:d.neg with
  |false=>
   have e:wd false z=z:=rfl
   rw[e]
   simp (maxSteps:=9^9) only[↓al,ak,simprocAttr,Oo,Oq,tW,ie,hl,i1,i2,bp,bR,bS,Lp,i3,hj,ek,i4,aeH,Az,AA,im,J3,LZ,L0]
  |true=>
   simp (maxSteps:=9^9) only[↓al,ak,simprocAttr,Oo,Oq,tW,ie,hl,i1,i2,bp,bR,bS,Lp,i3,hj,ek,i4,aeH,Az,AA,im,J3,LZ,L0,awC]
def vZ (a b:Nat):Bool:=cW a b|| !cW a a && !cW b b
theorem CQ {a b:Nat} (h:cW a b=true):vZ a b=true:=by unfold vZ;rw[h];rfl
def uh:br where
 pre:=fun ds=>∃a b:Nat,ds=[.flt a,.flt b]
 res:=fun ds=>match ds with
  |[.flt a,.flt b]=> .bool (vZ a b)
  |_=> .nilp
theorem GA (Γ:Env) (ds:List D) (h:uh.pre ds):bK Γ Ol Om ds fun d=>d=uh.res ds:=by
 obtain⟨a,b,rfl⟩:=h
 have bO:uh.res [.flt a,.flt b]= .bool (cW a b|| !cW a a && !cW b b):=rfl
 rw[bO]
 cases hf:cW a b with
 |true=>simp (maxSteps:=9^9) only[↓al,ak,simprocAttr,Ol,Om,hf,Bool.true_or]
 |false=>
  cases a6:cW a a with
  |true=>simp (maxSteps:=9^9) only[↓al,ak,simprocAttr,Ol,Om,hf,a6,Bool.not_true,Bool.false_and,Bool.or_false]
  |false=>
   cases aw:cW b b<;>simp (maxSteps:=9^9) only[↓al,ak,simprocAttr,Ol,Om,hf,a6,aw,Bool.not_false,Bool.not_true,Bool.true_and,Bool.false_or]
def bQ.mid (x:bQ):Prop:=qf x.lo∧qf x.hi∧(au x.lo.m).length≤8000∧(au x.hi.m).length≤8000∧-1000000≤x.lo.e∧x.lo.e≤1000000∧-1000000≤x.hi.e∧x.hi.e≤1000000
def y9 (x:bQ):D:= .du [.flt (cT x.lo),.bool (cW (cT x.lo) (cT x.hi))]
def ku:br where
 pre:=fun ds=>∃x:bQ,ds=[a2 x]∧x.mid
 res:=fun ds=>match ds with
  |[x]=>y9 (hk x)
  |_=> .nilp
theorem awD (Γ:Env) (atP:Γ.has 149 ug) (ds:List D) (h:ku.pre ds):bK Γ af9 aga ds fun d=>d=ku.res ds:=by
 obtain⟨x,rfl,h1,h2,aq,aK,aG,aM,aS,bn⟩:=h
 have bO:ku.res [a2 x]=y9 x:=by simp only[ku,a2,aZ,dY]
 rw[bO]
 unfold y9
 have p1:ug.pre [.agg [.bool x.lo.neg,.ints .i64 (au x.lo.m),.int .i64 x.lo.e]]:=⟨x.lo,rfl,h1,aq,aG,aM⟩
 have cq:ug.pre [.agg [.bool x.hi.neg,.ints .i64 (au x.hi.m),.int .i64 x.hi.e]]:=⟨x.hi,rfl,h2,aK,aS,bn⟩
 have bA:ug.res [.agg [.bool x.lo.neg,.ints .i64 (au x.lo.m),.int .i64 x.lo.e]]= .flt (cT x.lo):=by simp only[ug,ck]
 have bX:ug.res [.agg [.bool x.hi.neg,.ints .i64 (au x.hi.m),.int .i64 x.hi.e]]= .flt (cT x.hi):=by simp only[ug,ck]
 generalize cT x.lo=u at*
 generalize cT x.hi=v at*
 unfold a2 aZ
 simp (maxSteps:=9^9) only[↓al,ak,simprocAttr,af9,aga,atP,p1,bA,cq,bX]
end RV.Dr
namespace RV.Dr
open Go RV
set_option linter.unusedSimpArgs false
set_option linter.unusedVariables false
set_option maxRecDepth 100000
set_option maxHeartbeats 4000000
def rr:br where
 pre:=fun ds=>∃(q:Nat) (w:Int),ds=[.int .i64 q,.int .i64 w]∧3≤q∧q≤20∧0≤w∧w≤800
 res:=fun ds=>match ds with
  |[.int _ q,.int _ w]=>vX w (q - 2).toNat
  |_=> .nilp
def hM (w:Int) (n:Nat):List (List D):=(List.range n).map fun k=>fp (aB w k)
theorem amu (w:Int) (n:Nat):hM w n++[fp (aB w n)]=hM w (n+1):=by
 unfold hM;rw[List.range_succ,List.map_append];rfl
theorem RH (w:Int) (n:Nat):(hM w n).length=n:=by unfold hM;rw[List.length_map,List.length_range]
def kE (q w k:Int) (R:List (List D)) (n:Nat) (o:bQ) (p:dL) (s:St):Prop:=s.af 0= .d (.int .i64 q)∧s.af 1= .d (.int .i64 w)∧s.af 10= .d (.int .i64 k)∧s.af 9= .own 9 0 n∧s.aA 9=some ⟨false,false,.recs 12 R⟩∧cL 5 o s∧cL 6 p.c s∧cL 8 p.s s
theorem aeI (Γ:Env) (DP:Γ.has 59 iN) (Ag:Γ.has 24 hB) (VT:Γ.has 21 y4) (ah2:Γ.has 35 Af) (Lq:Γ.has 37 kW) (Hm:Γ.has 33 kt) (ds:List D) (h:rr.pre ds):bK Γ adx ady ds fun d=>d=rr.res ds:=by
 obtain⟨q,w,rfl,DG,azk,gp,gD⟩:=h
 have bO:rr.res [.int .i64 q,.int .i64 w]= .recs 12 (hM w (q - 2)):=by
  simp only[rr,show ((q:Int) - 2).toNat=q - 2 by omega];rfl
 rw[bO]
 obtain⟨o,bz⟩:∃o,o=i1:=⟨_,rfl⟩
 have tb:o.win (-(2*w+16)) 8:=bz▸Gc (by omega) (by omega)
 have p1:iN.pre [.int .i64 1]:=⟨1,rfl,by omega,by omega⟩
 have bA:iN.res [.int .i64 1]=aV d1:=by
  have:mk (decide ((1:Int)<0)) (Int.natAbs 1) 0=d1:=PQ
  simp only[iN,this]
 have cq:hB.pre [aV d1]:=⟨d1,rfl⟩
 have bX:hB.res [aV d1]=a2 o:=by simp only[hB,aV,aZ,ck,bz];rfl
 have fK:hB.pre [.agg [.bool false,.ints .i64 [1],.int .i64 (-1)]]:=⟨fq (-1),by unfold aV fq aZ;rw[cI]⟩
 have eJ:hB.res [.agg [.bool false,.ints .i64 [1],.int .i64 (-1)]]=a2 (g6 o (-1)):=by
  have e:(.agg [.bool false,.ints .i64 [1],.int .i64 (-1)]:D)=aV (fq (-1)):=by unfold aV fq aZ;rw[cI]
  rw[e]
  have aX:tx (fq (-1))=g6 o (-1):=by
   have:gi d1 (-1)=fq (-1):=by show mk false 1 (0+ -1)=_;rw[Int.zero_add];exact VL (-1)
   rw[bz];unfold tx g6 i1;rw[this]
  simp only[hB,aV,aZ,ck,aX]
 have key:∀(x:bQ),x.win (-(2*w+16)) 9→(Af.pre [a2 x,.int .i64 (-1)]∧Af.res [a2 x,.int .i64 (-1)]=a2 (g6 x (-1)))∧
  (y4.pre [a2 (g6 x (-1)),.int .i64 w]∧∃b,y4.res [a2 (g6 x (-1)),.int .i64 w]= .du [a2 (g0 x w),.bool b]):=fun x aj=>by
  refine⟨⟨⟨x,-1,rfl,gJ aj (by omega) (by omega),by omega,by omega⟩,by simp only[Af,a2,aZ,dY]⟩,⟨g6 x (-1),w,rfl,gJ (RD aj (-1)) (by omega) (by omega),gp,by omega⟩,?_⟩
  simp only[y4,a2,aZ,dY]
  unfold sn g0
  have e:(g6 x (-1)).lo=gi x.lo (-1):=rfl
  rw[e]
  split
  ·exact⟨false,rfl⟩
  ·exact⟨true,rfl⟩
 rw[gx]
 unfold adx ady
 refine bC (fun s=>s.af 0= .d (.int .i64 q)∧s.af 1= .d (.int .i64 w)) ?_ ?_
 ·simp (maxSteps:=9^9) only[↓al,ak,simprocAttr]
 rintro s ⟨h0,h1⟩
 refine bC (fun s=>s.af 0= .d (.int .i64 q)∧s.af 1= .d (.int .i64 w)∧cL 5 o s) ?_ ?_
 ·unfold aV aZ at bA cq bX
  unfold a2 aZ at bX
  simp (maxSteps:=9^9) only[↓al,ak,simprocAttr,h0,h1,DP,p1,bA,Ag,cq,bX,cL]
 clear h0 h1
 rintro s ⟨h0,h1,aG,bq⟩
 refine bC (fun s=>s.af 0= .d (.int .i64 q)∧s.af 1= .d (.int .i64 w)∧cL 5 o s∧cL 6 (aB w 0).c s) ?_ ?_
 ·obtain⟨-,D1,b,j4⟩:=key o (gJ tb (by omega) (by omega))
  have b8:(aB w 0).c=g0 o w:=by rw[bz];rfl
  rw[b8]
  generalize g0 o w=z at*
  generalize g6 o (-1)=y at*
  unfold a2 aZ at eJ D1 j4
  simp (maxSteps:=9^9) only[↓al,ak,simprocAttr,h0,h1,aG,bq,Ag,fK,eJ,VT,D1,j4,cL]
 clear h0 h1 aG bq
 rintro s ⟨h0,h1,⟨aG,bq⟩,aM,aY⟩
 refine bC (fun s=>s.af 0= .d (.int .i64 q)∧s.af 1= .d (.int .i64 w)∧cL 5 o s∧cL 6 (aB w 0).c s∧cL 8 (aB w 0).s s) ?_ ?_
 ·have b8:(aB w 0).s=(aB w 0).c:=rfl
  rw[b8]
  generalize (aB w 0).c=z at*
  simp (maxSteps:=9^9) only[↓al,ak,simprocAttr,h0,h1,aG,bq,aM,aY,cL]
 clear h0 h1 aG bq aM aY
 rintro s ⟨h0,h1,⟨aG,bq⟩,⟨aM,aY⟩,bn,bZ⟩
 refine bC (fun s=>s.af 0= .d (.int .i64 q)∧s.af 1= .d (.int .i64 w)∧s.af 9= .own 9 0 0∧s.aA 9=some ⟨false,false,.recs 12 []⟩∧cL 5 o s∧cL 6 (aB w 0).c s∧cL 8 (aB w 0).s s) ?_ ?_
 ·generalize (aB w 0).c=z at*
  generalize (aB w 0).s=fU at*
  simp (maxSteps:=9^9) only[↓al,ak,simprocAttr,h0,h1,aG,bq,aM,aY,bn,bZ,cL]
 clear h0 h1 aG bq aM aY bn bZ
 rintro s ⟨h0,h1,bH,cD,⟨aG,bq⟩,⟨aM,aY⟩,bn,bZ⟩
 refine cB (fun _=>False) ?_ (fun s h=>h.elim)
 refine bC (kE q w 3 [] 0 o (aB w 0)) ?_ ?_
 ·generalize aB w 0=z at*
  simp (maxSteps:=9^9) only[↓al,ak,simprocAttr,h0,h1,bH,cD,aG,bq,aM,aY,bn,bZ,cL,kE]
 clear h0 h1 bH cD aG bq aM aY bn bZ
 intro s aE
 rw[ka]
 refine eV (fun s=>∃n:Nat,n+3≤q∧kE q w (n+3:Nat) (hM w n) n o (aB w n) s) (fun s=>match s.af 10 with| .d (.int _ n)=>(100 - n).toNat|_=>0) ⟨0,by omega,aE⟩ ?_
 clear aE
 rintro s ⟨n,aJ,h0,h1,bI,bH,cD,⟨aG,bq⟩,⟨aM,aY⟩,bn,bZ⟩
 have qt:=bI
 refine bC (kE q w (n+3:Nat) (hM w n) n o (aB w n)) ?_ ?_
 ·generalize aB w n=z at*
  generalize hM w n=R at*
  have bR:((n+3:Nat):Int)≤q:=by omega
  simp (maxSteps:=9^9) only[↓al,ak,simprocAttr,h0,h1,bI,bH,cD,aG,bq,aM,aY,bn,bZ,bR,cL,kE]
 clear h0 h1 bI bH cD aG bq aM aY bn bZ
 rintro s ⟨h0,h1,bI,bH,cD,⟨aG,bq⟩,⟨aM,aY⟩,bn,bZ⟩
 refine bC (fun s=>n+3<q∧kE q w (n+3:Nat) (hM w (n+1)) (n+1) o (aB w (n+1)) s) ?_ ?_
 ·rw[ka]
  have ah3:=amu w n
  have aH:=RH w n
  have gA:=RH w (n+1)
  refine bC (kE q w (n+3:Nat) (hM w (n+1)) (n+1) o (aB w n)) ?_ ?_
  ·unfold fp aZ at ah3
   generalize aB w n=z at*
   generalize hM w n=R at*
   generalize hM w (n+1)=zo at*
   simp (maxSteps:=9^9) only[↓al,ak,simprocAttr,h0,h1,bI,bH,cD,aG,bq,aM,aY,bn,bZ,ah3,aH,gA,cL,kE]
   simp only[b1];omega
  clear h0 h1 bI bH cD aG bq aM aY bn bZ
  rintro s ⟨h0,h1,bI,bH,cD,⟨aG,bq⟩,⟨aM,aY⟩,bn,bZ⟩
  refine bC (fun s=>(n+3:Nat)<q∧kE q w (n+3:Nat) (hM w (n+1)) (n+1) o (aB w n) s) ?_ ?_
  ·have awE:n+3=q→q - 2=n+1:=by omega
   generalize aB w n=z at*
   by_cases ce:n+3=q
   ·rw[awE ce]
    have bR:(((n+3:Nat):Int)==(q:Int))=true:=by rw[beq_iff_eq];omega
    generalize hM w (n+1)=zo at*
    simp (maxSteps:=9^9) only[↓al,ak,simprocAttr,h0,h1,bI,bH,cD,aG,bq,aM,aY,bn,bZ,bR,gA,cL,kE]
    rw[List.take_of_length_le (by omega)]
   ·have bR:(((n+3:Nat):Int)==(q:Int))=false:=by rw[beq_eq_false_iff_ne];omega
    generalize hM w (n+1)=zo at*
    simp (maxSteps:=9^9) only[↓al,ak,simprocAttr,h0,h1,bI,bH,cD,aG,bq,aM,aY,bn,bZ,bR,cL,kE]
    omega
  clear h0 h1 bI bH cD aG bq aM aY bn bZ
  rintro s ⟨bl,h0,h1,bI,bH,cD,⟨aG,bq⟩,⟨aM,aY⟩,bn,bZ⟩
  have ad:=(BF gp n).1
  have cj:=tA tb ad
  have ej:=tA tb (sb ad)
  obtain⟨⟨dP,t1⟩,fw,aW,t2⟩:=key (ev o (aB w n).c) (gJ cj (by omega) (by omega))
  obtain⟨⟨gF,t3⟩,uJ,a9,t4⟩:=key (ev o (dG (aB w n).c)) (gJ ej (by omega) (by omega))
  have ek:aB w (n+1)=⟨g0 (ev o (aB w n).c) w,g0 (ev o (dG (aB w n).c)) w⟩:=by rw[bz];rfl
  rw[ek]
  have pa:kW.pre [a2 o,a2 (aB w n).c]:=⟨o,_,rfl,gJ tb (by omega) (by omega),gJ ad (by omega) (by omega)⟩
  have ox:kW.res [a2 o,a2 (aB w n).c]=a2 (ev o (aB w n).c):=by simp only[kW,a2,aZ,dY]
  have jJ:kt.pre [a2 (aB w n).c]:=⟨_,rfl⟩
  have hT:kt.res [a2 (aB w n).c]=a2 (dG (aB w n).c):=by simp only[kt,a2,aZ,dY]
  have px:kW.pre [a2 o,a2 (dG (aB w n).c)]:=⟨o,_,rfl,gJ tb (by omega) (by omega),gJ (sb ad) (by omega) (by omega)⟩
  have jL:kW.res [a2 o,a2 (dG (aB w n).c)]=a2 (ev o (dG (aB w n).c)):=by simp only[kW,a2,aZ,dY]
  clear key cj ej ek ad
  generalize aB w n=z at*
  generalize hM w (n+1)=zo at*
  generalize ev o z.c=u at*
  generalize dG z.c=v at*
  generalize ev o v=t at*
  generalize g0 u w=x at*
  generalize g0 t w=y at*
  generalize g6 u (-1)=pq at*
  generalize g6 t (-1)=s4 at*
  unfold a2 aZ at pa ox jJ hT px jL dP t1 fw t2 gF t3 uJ t4
  refine bC (fun s=>kE q w (n+3:Nat) zo (n+1) o z s∧cL 11 pq s) ?_ ?_
  ·simp (maxSteps:=9^9) only[↓al,ak,simprocAttr,h0,h1,bI,bH,cD,aG,bq,aM,aY,bn,bZ,Lq,pa,ox,ah2,dP,t1,cL,kE]
  clear h0 h1 bI bH cD aG bq aM aY bn bZ
  rintro s ⟨⟨h0,h1,bI,bH,cD,⟨aG,bq⟩,⟨aM,aY⟩,bn,bZ⟩,cv,g3⟩
  refine bC (fun s=>kE q w (n+3:Nat) zo (n+1) o z s∧cL 11 pq s∧cL 12 s4 s) ?_ ?_
  ·simp (maxSteps:=2000000) only[↓al,ak,↓reduceIte,reduceCtorEq,Nat.reduceEqDiff,Nat.reduceLeDiff,Nat.reduceSub,Nat.reduceAdd,Int.reduceToNat,Nat.reducePow,Int.reducePow,Int.reduceLE,Int.reduceLT,IntKind.bits,h0,h1,bI,bH,cD,aG,bq,aM,aY,bn,bZ,cv,g3,Lq,px,jL,Hm,jJ,hT,ah2,gF,t3,cL,kE]
   exact⟨by decide,by decide⟩
  clear h0 h1 bI bH cD aG bq aM aY bn bZ cv g3
  rintro s ⟨⟨h0,h1,bI,bH,cD,⟨aG,bq⟩,⟨aM,aY⟩,bn,bZ⟩,⟨cv,g3⟩,cA,gE⟩
  refine bC (fun s=>kE q w (n+3:Nat) zo (n+1) o ⟨x,z.s⟩ s∧cL 12 s4 s) ?_ ?_
  ·simp (maxSteps:=9^9) only[↓al,ak,simprocAttr,h0,h1,bI,bH,cD,aG,bq,aM,aY,bn,bZ,cv,g3,cA,gE,VT,fw,t2,cL,kE]
  clear h0 h1 bI bH cD aG bq aM aY bn bZ cv g3 cA gE
  rintro s ⟨⟨h0,h1,bI,bH,cD,⟨aG,bq⟩,⟨aM,aY⟩,bn,bZ⟩,cA,gE⟩
  simp (maxSteps:=9^9) only[↓al,ak,simprocAttr,h0,h1,bI,bH,cD,aG,bq,aM,aY,bn,bZ,cA,gE,VT,uJ,t4,cL,kE,bl]
 ·clear h0 h1 bI bH cD aG bq aM aY bn bZ
  rintro s ⟨bl,aE⟩
  refine zD (fun s=>s.af 10= .d (.int .i64 (n+1+3:Nat))∧kE q w (n+1+3:Nat) (hM w (n+1)) (n+1) o (aB w (n+1)) s) ?_ ?_
  rotate_left
  ·rintro s ⟨bI,aE⟩
   refine⟨⟨n+1,bl,aE⟩,?_⟩
   simp only[bI,qt]
   omega
  obtain⟨h0,h1,bI,bH,cD,⟨aG,bq⟩,⟨aM,aY⟩,bn,bZ⟩:=aE
  generalize aB w (n+1)=z at*
  generalize hM w (n+1)=zo at*
  have cN:((n+3:Nat):Int)+1=((n+1+3:Nat):Int):=by omega
  simp (maxSteps:=9^9) only[↓al,ak,simprocAttr,h0,h1,bI,bH,cD,aG,bq,aM,aY,bn,bZ,cN,cL,kE]
  simp only[aI];omega
theorem an8 {Γ:Env} {c:bk} {a b:a3} {Q:fi→St→Prop} {σ:St} (h:σ.aU c= .d (.bool true)) (a6:cb Γ a Q σ):cb Γ (.cond c a b) Q σ:=by
 rw[cb]
 rw[h]
 exact⟨fun _=>a6,fun e=>by cases e⟩
def j7 (K Q q w:Int) (L:List (List D)) (p:dL) (s:St):Prop:=s.af 1= .d (.int .i64 w)∧s.af 2= .d (.recs 12 L)∧s.af 3= .box 3 0∧s.aA 3=some ⟨false,false,.cells [.d (.int .i64 K),.d (.int .i64 Q)]⟩∧dF 6 s∧dF 7 s∧cL 8 p.c s∧cL 9 p.s s∧s.af 10= .d (.int .i64 q)
theorem aeJ (Γ:Env) (DP:Γ.has 59 iN) (Ag:Γ.has 24 hB) (ah4:Γ.has 39 y3) (Hm:Γ.has 33 kt) (Lq:Γ.has 37 kW) (ah5:Γ.has 41 uH) (ds:List D) (h:BG.pre ds):bK Γ adK adL ds fun d=>d=BG.res ds:=by
 obtain⟨a,w,N,rfl,a6,cw,az7,gp,gD⟩:=h
 have bO:BG.res [jl a,.int .i64 w,vX w N]=iB (rest (b5 a) (a0 a) w):=rfl
 rw[bO]
 have D0:jl a=cd (b5 a) (a0 a):=rfl
 rw[D0]
 have b9:=NZ (a:=a) (by omega)
 generalize b5 a=K at*
 generalize a0 a=Q at*
 clear D0 bO
 obtain⟨L,dz⟩:∃L,L=hM w N:=⟨_,rfl⟩
 have Wz:vX w N= .recs 12 L:=by rw[dz];rfl
 have ah6:L.length=N:=by rw[dz,RH]
 have Hs:∀i,i<N→L.getD i []=fp (aB w i):=fun i hi=>by
  rw[dz];unfold hM
  rw[List.getD_eq_getElem?_getD,List.getElem?_map,List.getElem?_range hi];rfl
 rw[Wz]
 obtain⟨o,bz⟩:∃o,o=i1:=⟨_,rfl⟩
 have p1:iN.pre [.int .i64 1]:=⟨1,rfl,by omega,by omega⟩
 have bA:iN.res [.int .i64 1]=aV d1:=by
  have:mk (decide ((1:Int)<0)) (Int.natAbs 1) 0=d1:=PQ
  simp only[iN,this]
 have cq:hB.pre [aV d1]:=⟨d1,rfl⟩
 have bX:hB.res [aV d1]=a2 o:=by simp only[hB,aV,aZ,ck,bz];rfl
 have lN:au 0=[]:=hv
 have fK:hB.pre [.agg [.bool false,.ints .i64 [],.int .i64 0]]:=⟨⟨false,0,0⟩,by unfold aV aZ;rw[lN]⟩
 obtain⟨z,bp⟩:∃z:bQ,z=⟨⟨false,0,0⟩,⟨false,0,0⟩⟩:=⟨_,rfl⟩
 have eJ:hB.res [.agg [.bool false,.ints .i64 [],.int .i64 0]]=a2 z:=by
  have e:(.agg [.bool false,.ints .i64 [],.int .i64 0]:D)=aV ⟨false,0,0⟩:=by unfold aV aZ;rw[lN]
  rw[e,bp]
  have aX:fj (aV ⟨false,0,0⟩)=⟨false,0,0⟩:=ck ⟨false,0,0⟩
  simp only[hB,aX];rfl
 have awF:p0=⟨o,z⟩:=by rw[bz,bp];rfl
 rw[gx]
 unfold adK adL
 refine bC (fun s=>s.af 1= .d (.int .i64 w)∧s.af 2= .d (.recs 12 L)∧s.af 3= .box 3 0∧s.aA 3=some ⟨false,false,.cells [.d (.int .i64 K),.d (.int .i64 Q)]⟩∧dF 6 s∧dF 7 s) ?_ ?_
 ·simp (maxSteps:=9^9) only[↓al,ak,simprocAttr,cd,dF]
 rintro s ⟨h1,h2,aq,a5,⟨aM,aY⟩,aS,b6⟩
 refine bC (fun s=>s.af 1= .d (.int .i64 w)∧s.af 2= .d (.recs 12 L)∧s.af 3= .box 3 0∧s.aA 3=some ⟨false,false,.cells [.d (.int .i64 K),.d (.int .i64 Q)]⟩∧dF 6 s∧dF 7 s∧cL 8 o s) ?_ ?_
 ·unfold aV aZ at bA cq bX
  unfold a2 aZ at bX
  simp (maxSteps:=9^9) only[↓al,ak,simprocAttr,h1,h2,aq,a5,aM,aY,aS,b6,DP,p1,bA,Ag,cq,bX,dF,cL]
 clear h1 h2 aq a5 aM aY aS b6
 rintro s ⟨h1,h2,aq,a5,⟨aM,aY⟩,⟨aS,b6⟩,bn,bZ⟩
 refine bC (fun s=>s.af 1= .d (.int .i64 w)∧s.af 2= .d (.recs 12 L)∧s.af 3= .box 3 0∧s.aA 3=some ⟨false,false,.cells [.d (.int .i64 K),.d (.int .i64 Q)]⟩∧dF 6 s∧dF 7 s∧cL 8 o s∧cL 9 z s) ?_ ?_
 ·unfold a2 aZ at eJ
  simp (maxSteps:=9^9) only[↓al,ak,simprocAttr,h1,h2,aq,a5,aM,aY,aS,b6,bn,bZ,Ag,fK,eJ,dF,cL]
 clear h1 h2 aq a5 aM aY aS b6 bn bZ
 rintro s ⟨h1,h2,aq,a5,⟨aM,aY⟩,⟨aS,b6⟩,⟨bn,bZ⟩,bH,cD⟩
 obtain⟨R,eC⟩:∃R,R=rest K Q w:=⟨_,rfl⟩
 obtain⟨n,aJ⟩:∃n,n=((Q:Int) - 2).toNat:=⟨_,rfl⟩
 have DJ:R=rT K Q w n 3 p0:=by rw[eC,aJ];rfl
 rw[←eC]
 refine cB (fun s=>dF 6 s∧dF 7 s∧cL 8 R.c s∧cL 9 R.s s) ?_ ?_
 rotate_left
 ·clear h1 h2 aq a5 aM aY aS b6 bn bZ bH cD
  rintro s ⟨⟨aM,aY⟩,⟨aS,b6⟩,⟨bn,bZ⟩,bH,cD⟩
  simp (maxSteps:=2000000) only[↓al,ak,↓reduceIte,reduceCtorEq,Nat.reduceEqDiff,Nat.reduceLeDiff,Nat.reduceSub,Nat.reduceAdd,Int.reduceToNat,Nat.reducePow,Int.reducePow,Int.reduceLE,Int.reduceLT,IntKind.bits,aM,aY,aS,b6,bn,bZ,bH,cD,iB,a2,aZ]
  (repeat' apply And.intro)<;>decide
 refine bC (j7 K Q 3 w L p0) ?_ ?_
 ·rw[awF]
  simp (maxSteps:=9^9) only[↓al,ak,simprocAttr,h1,h2,aq,a5,aM,aY,aS,b6,bn,bZ,bH,cD,j7,dF,cL]
 clear h1 h2 aq a5 aM aY aS b6 bn bZ bH cD p1 bA cq bX fK eJ
 intro s aE
 rw[ka]
 refine eV (fun s=>∃(k:Nat) (p:dL),k≤n∧rT K Q w (n - k) (k+3) p=R∧p.win (-((k:Int)*(2*w+16))) (1+10*k)∧j7 K Q (k+3:Nat) w L p s) (fun s=>match s.af 10 with| .d (.int _ n)=>(100 - n).toNat|_=>0) ⟨0,p0,by omega,DJ.symm,T0 (by omega) (by omega),aE⟩ ?_
 clear aE
 rintro s ⟨k,p,yZ,fD,qp,h1,h2,aq,a5,⟨aM,aY⟩,⟨aS,b6⟩,⟨bn,bZ⟩,⟨bH,cD⟩,bI⟩
 have qt:=bI
 by_cases Ay:((k+3:Nat):Int)≤(Q:Int)
 rotate_left
 ·have b8:n - k=0:=by omega
  rw[b8]at fD
  have fD:p=R:=fD
  subst fD
  simp (maxSteps:=9^9) only[↓al,ak,simprocAttr,h1,h2,aq,a5,aM,aY,aS,b6,bn,bZ,bH,cD,bI,Ay,dF,cL]
 have bl:k<n:=by omega
 have oz:=BF gp k
 have awl:(k:Int)*(2*w+16)≤12*(2*w+16):=Int.mul_le_mul_of_nonneg_right (by omega) (by omega)
 have atA:0≤(k:Int)*(2*w+16):=Int.mul_nonneg (by omega) (by omega)
 refine bC (j7 K Q (k+3:Nat) w L p) ?_ ?_
 ·simp (maxSteps:=9^9) only[↓al,ak,simprocAttr,h1,h2,aq,a5,aM,aY,aS,b6,bn,bZ,bH,cD,bI,Ay,dF,cL,j7]
 clear h1 h2 aq a5 aM aY aS b6 bn bZ bH cD bI
 rintro s ⟨h1,h2,aq,a5,⟨aM,aY⟩,⟨aS,b6⟩,⟨bn,bZ⟩,⟨bH,cD⟩,bI⟩
 obtain⟨dx,o8⟩:∃dx:dL,dx=if (K / 2^(Q - (k+3))) % 2=1 then tF p (aB w k) w else p:=⟨_,rfl⟩
 have e5:rT K Q w (n - (k+1)) (k+1+3) dx=R:=by
  rw[←fD,show n - k=n - (k+1)+1 by omega,Zw,Int.toNat_natCast,Int.toNat_natCast,show k+3 - 3=k by omega,o8]
 have kS:dx.win (-(((k+1:Nat):Int)*(2*w+16))) (1+10*((k+1:Nat):Int)):=by
  have e:((k+1:Nat):Int)*(2*w+16)=(k:Int)*(2*w+16)+(2*w+16):=by rw[Int.natCast_add,Int.add_mul];omega
  rw[o8,e]
  split
  ·exact yx (R1 qp oz gp) (by omega) (by omega)
  ·exact yx qp (by omega) (by omega)
 refine bC (j7 K Q (k+3:Nat) w L dx) ?_ ?_
 rotate_left
 ·clear h1 h2 aq a5 aM aY aS b6 bn bZ bH cD bI
  intro s aE
  refine zD (fun s=>s.af 10= .d (.int .i64 (k+1+3:Nat))∧j7 K Q (k+1+3:Nat) w L dx s) ?_ ?_
  rotate_left
  ·rintro s ⟨bI,aE⟩
   refine⟨⟨k+1,dx,bl,e5,kS,aE⟩,?_⟩
   simp only[bI,qt]
   omega
  obtain⟨h1,h2,aq,a5,⟨aM,aY⟩,⟨aS,b6⟩,⟨bn,bZ⟩,⟨bH,cD⟩,bI⟩:=aE
  have cN:((k+3:Nat):Int)+1=((k+1+3:Nat):Int):=by omega
  simp (maxSteps:=9^9) only[↓al,ak,simprocAttr,h1,h2,aq,a5,aM,aY,aS,b6,bn,bZ,bH,cD,bI,cN,dF,cL,j7]
  simp only[aI];omega
 rw[ka]
 have es:(Q:Int) - ((k+3:Nat):Int)=((Q - (k+3):Nat):Int):=by omega
 have Lj:Q - (k+3)≤64:=by omega
 have aw:=aaQ K (Q - (k+3))
 have g3:((1:Int)==1)=true:=rfl
 have VN:((0:Int)==1)=false:=rfl
 obtain⟨t,ae⟩:∃t:Bool,t=decide (K / 2^(Q - (k+3)) % 2=1):=⟨_,rfl⟩
 refine bC (fun s=>s.af 32= .d (.bool t)∧j7 K Q (k+3:Nat) w L p s) ?_ ?_
 ·rcases (by omega:K / 2^(Q - (k+3)) % 2=1∨K / 2^(Q - (k+3)) % 2=0)with ay|ay
  ·rw[ay]at aw
   have aw:iH .i64 ((K:Int).fdiv (2^(Q - (k+3)))) 1=1:=aw
   have ae:t=true:=by rw[ae,ay];rfl
   simp (maxSteps:=9^9) only[↓al,ak,simprocAttr,h1,h2,aq,a5,aM,aY,aS,b6,bn,bZ,bH,cD,bI,es,Lj,aw,g3,ae,dF,cL,j7]
   exact⟨by simp only[aI];omega,by omega⟩
  ·rw[ay]at aw
   have aw:iH .i64 ((K:Int).fdiv (2^(Q - (k+3)))) 1=0:=aw
   have ae:t=false:=by rw[ae,ay];rfl
   simp (maxSteps:=9^9) only[↓al,ak,simprocAttr,h1,h2,aq,a5,aM,aY,aS,b6,bn,bZ,bH,cD,bI,es,Lj,aw,VN,ae,dF,cL,j7]
   exact⟨by simp only[aI];omega,by omega⟩
 clear h1 h2 aq a5 aM aY aS b6 bn bZ bH cD bI
 rintro s ⟨PW,h1,h2,aq,a5,⟨aM,aY⟩,⟨aS,b6⟩,⟨bn,bZ⟩,⟨bH,cD⟩,bI⟩
 cases t with
 |false=>
  have ay:¬(K / 2^(Q - (k+3)) % 2=1):=of_decide_eq_false ae.symm
  rw[if_neg ay]at o8
  subst o8
  simp (maxSteps:=9^9) only[↓al,ak,simprocAttr,PW,h1,h2,aq,a5,aM,aY,aS,b6,bn,bZ,bH,cD,bI,Bool.false_eq_true,dF,cL,j7]
 |true=>
  have ay:K / 2^(Q - (k+3)) % 2=1:=of_decide_eq_true ae.symm
  rw[if_pos ay]at o8
  refine an8 PW ?_
  have awG:((k+3:Nat):Int) - 3=(k:Int):=by omega
  have awH:k<L.length:=by omega
  have atQ:(k:Int)<L.length:=by omega
  have VU:=Hs k (by omega)
  generalize aB w k=q at*
  unfold fp aZ at VU
  refine bC (fun s=>j7 K Q (k+3:Nat) w L p s∧h8 11 q s) ?_ ?_
  ·simp (maxSteps:=9^9) only[↓al,ak,simprocAttr,PW,h1,h2,aq,a5,aM,aY,aS,b6,bn,bZ,bH,cD,bI,awG,awH,atQ,VU,Int.toNat_natCast,dF,cL,h8,j7]
   ((repeat' apply And.intro)<;>first|assumption|with_reducible rfl|omega|(simp only[aI];omega)|exact⟨_,rfl⟩|exact⟨_,_,_,rfl⟩|exact⟨_,_,_,_,_,_,rfl⟩)
  clear h1 h2 aq a5 aM aY aS b6 bn bZ bH cD bI PW
  rintro s ⟨⟨h1,h2,aq,a5,⟨aM,aY⟩,⟨aS,b6⟩,⟨bn,bZ⟩,⟨bH,cD⟩,bI⟩,cv,J4⟩
  have u:∀{lo hi:Int} {x:bQ},x.win lo hi→-25000≤lo→hi≤25000→HM x:=fun h l k=>gJ h l k
  have v:∀{lo hi:Int} {x:bQ},x.win lo hi→-50000≤lo→hi≤50000→k1 x:=fun h l k=>gJ h l k
  have L2:∀{x y:bQ},x.win (-((k:Int)*(2*w+16))) (1+10*k)→y.win (-(2*w+16)) 8→y3.pre [a2 x,a2 y]∧y3.res [a2 x,a2 y]=a2 (dp x y):=fun {x y} aj hy=>
   ⟨⟨x,y,rfl,u aj (by omega) (by omega),u hy (by omega) (by omega)⟩,by simp only[y3,a2,aZ,dY]⟩
  obtain⟨e0,ew⟩:=L2 qp.1 oz.1
  obtain⟨gw,eN⟩:=L2 qp.2 oz.2
  obtain⟨Aw,Cf⟩:=L2 qp.2 oz.1
  obtain⟨Ch,zj⟩:=L2 qp.1 oz.2
  have cf:=tz qp.1 oz.1
  have cP:=tz qp.2 oz.2
  have pr:=tz qp.2 oz.1
  have L3:=tz qp.1 oz.2
  have wf:=sb cP
  have wa:=tA cf wf
  have wb:=tA pr L3
  have jJ:kt.pre [a2 (dp p.s q.s)]:=⟨_,rfl⟩
  have hT:kt.res [a2 (dp p.s q.s)]=a2 (dG (dp p.s q.s)):=by simp only[kt,a2,aZ,dY]
  have pa:kW.pre [a2 (dp p.c q.c),a2 (dG (dp p.s q.s))]:=⟨_,_,rfl,v cf (by omega) (by omega),v wf (by omega) (by omega)⟩
  have ox:kW.res [a2 (dp p.c q.c),a2 (dG (dp p.s q.s))]=a2 (ev (dp p.c q.c) (dG (dp p.s q.s))):=by simp only[kW,a2,aZ,dY]
  have px:kW.pre [a2 (dp p.s q.c),a2 (dp p.c q.s)]:=⟨_,_,rfl,v pr (by omega) (by omega),v L3 (by omega) (by omega)⟩
  have jL:kW.res [a2 (dp p.s q.c),a2 (dp p.c q.s)]=a2 (ev (dp p.s q.c) (dp p.c q.s)):=by simp only[kW,a2,aZ,dY]
  have fV:uH.pre [a2 (ev (dp p.c q.c) (dG (dp p.s q.s))),.int .i64 w]:=⟨_,w,rfl,v wa (by omega) (by omega),gp,by omega⟩
  have rc:uH.res [a2 (ev (dp p.c q.c) (dG (dp p.s q.s))),.int .i64 w]=a2 (qb (ev (dp p.c q.c) (dG (dp p.s q.s))) w):=by simp only[uH,a2,aZ,dY]
  have Qf:uH.pre [a2 (ev (dp p.s q.c) (dp p.c q.s)),.int .i64 w]:=⟨_,w,rfl,v wb (by omega) (by omega),gp,by omega⟩
  have rd:uH.res [a2 (ev (dp p.s q.c) (dp p.c q.s)),.int .i64 w]=a2 (qb (ev (dp p.s q.c) (dp p.c q.s)) w):=by simp only[uH,a2,aZ,dY]
  have Cm:dx=⟨qb (ev (dp p.c q.c) (dG (dp p.s q.s))) w,qb (ev (dp p.s q.c) (dp p.c q.s)) w⟩:=o8
  rw[Cm]
  clear L2 cf cP pr L3 wf wa wb e5 kS o8 Cm Hs VU qp oz fD
  generalize dp p.c q.c=gT at*
  generalize dp p.s q.s=kz at*
  generalize dp p.s q.c=WG at*
  generalize dp p.c q.s=ajt at*
  generalize dG kz=aju at*
  generalize ev gT aju=WH at*
  generalize ev WG ajt=WI at*
  generalize qb WH w=ayQ at*
  generalize qb WI w=aAy at*
  unfold a2 aZ at e0 ew gw eN Aw Cf Ch zj jJ hT pa ox px jL fV rc Qf rd
  refine bC (fun s=>j7 K Q (k+3:Nat) w L p s∧h8 11 q s∧cL 12 WH s) ?_ ?_
  ·simp (maxSteps:=2000000) only[↓al,ak,↓reduceIte,reduceCtorEq,Nat.reduceEqDiff,Nat.reduceLeDiff,Nat.reduceSub,Nat.reduceAdd,Int.reduceToNat,Nat.reducePow,Int.reducePow,Int.reduceLE,Int.reduceLT,IntKind.bits,h1,h2,aq,a5,aM,aY,aS,b6,bn,bZ,bH,cD,bI,cv,J4,ah4,e0,ew,gw,eN,Hm,jJ,hT,Lq,pa,ox,dF,cL,h8,j7]
   (repeat' apply And.intro)<;>decide
  clear h1 h2 aq a5 aM aY aS b6 bn bZ bH cD bI cv J4
  rintro s ⟨⟨h1,h2,aq,a5,⟨aM,aY⟩,⟨aS,b6⟩,⟨bn,bZ⟩,⟨bH,cD⟩,bI⟩,⟨cv,J4⟩,cA,gE⟩
  refine bC (fun s=>j7 K Q (k+3:Nat) w L p s∧cL 12 WH s∧cL 13 WI s) ?_ ?_
  ·simp (maxSteps:=2000000) only[↓al,ak,↓reduceIte,reduceCtorEq,Nat.reduceEqDiff,Nat.reduceLeDiff,Nat.reduceSub,Nat.reduceAdd,Int.reduceToNat,Nat.reducePow,Int.reducePow,Int.reduceLE,Int.reduceLT,IntKind.bits,h1,h2,aq,a5,aM,aY,aS,b6,bn,bZ,bH,cD,bI,cv,J4,cA,gE,ah4,Aw,Cf,Ch,zj,Lq,px,jL,dF,cL,h8,j7]
   (repeat' apply And.intro)<;>decide
  clear h1 h2 aq a5 aM aY aS b6 bn bZ bH cD bI cv J4 cA gE
  rintro s ⟨⟨h1,h2,aq,a5,⟨aM,aY⟩,⟨aS,b6⟩,⟨bn,bZ⟩,⟨bH,cD⟩,bI⟩,⟨cA,gE⟩,dn,jA⟩
  refine bC (fun s=>j7 K Q (k+3:Nat) w L ⟨ayQ,p.s⟩ s∧cL 13 WI s) ?_ ?_
  ·simp (maxSteps:=9^9) only[↓al,ak,simprocAttr,h1,h2,aq,a5,aM,aY,aS,b6,bn,bZ,bH,cD,bI,cA,gE,dn,jA,ah5,fV,rc,dF,cL,j7]
  clear h1 h2 aq a5 aM aY aS b6 bn bZ bH cD bI cA gE dn jA
  rintro s ⟨⟨h1,h2,aq,a5,⟨aM,aY⟩,⟨aS,b6⟩,⟨bn,bZ⟩,⟨bH,cD⟩,bI⟩,dn,jA⟩
  simp (maxSteps:=9^9) only[↓al,ak,simprocAttr,h1,h2,aq,a5,aM,aY,aS,b6,bn,bZ,bH,cD,bI,dn,jA,ah5,Qf,rd,dF,cL,j7]
theorem YM {a q:Nat} (h:a<1152921504606846976) (aO:q≤60):a0 a≤q↔2^(60 - q)∣a:=by
 by_cases h0:a=0
 ·subst h0;exact⟨fun _=>Nat.dvd_zero _,fun _=>by rw[yq.2];omega⟩
 ·have bp:=OC h0 h
  have e:a0 a=60 - b2 a:=by unfold a0;rw[if_neg h0]
  have aE:=(jN h0).1
  constructor
  ·intro k
   rw[←aE]
   refine Nat.dvd_trans ?_ (Nat.dvd_mul_left _ _)
   exact Nat.pow_dvd_pow 2 (show 60 - q≤b2 a by omega)
  ·intro k
   have:=Rw (k:=60 - q) h0 (Nat.mod_eq_zero_of_dvd k)
   omega
theorem asA {a q:Nat} (h:a<1152921504606846976) (aq:3≤q) (aO:q≤60) (k:a0 a≤q):a0 (bV a)≤q:=by
 rw[YM h aO]at k
 rw[YM (by have:=CV a;omega) aO]
 have d:2^(60 - q)∣144115188075855872:=by
  rw[show 144115188075855872=2^57 by decide]
  exact Nat.pow_dvd_pow 2 (by omega)
 unfold bV
 split
 ·exact Nat.dvd_sub k (Nat.dvd_trans d (Nat.dvd_mul_left _ _))
 ·exact Nat.dvd_sub (Nat.dvd_trans d (Nat.dvd_mul_left _ _)) k
def lI:br where
 pre:=fun ds=>∃(K:Int) (Q:Nat) (w:Int),ds=[cd K Q,.int .i64 w]∧Q≤60∧aI K∧a0 (an K Q)≤14∧0≤w∧w≤800
 res:=fun ds=>match ds with
  |[.agg [.int _ K,.int _ Q],.int _ w]=>iB (dh (an K Q.toNat) w)
  |_=> .nilp
theorem ah7 (Γ:Env) (yK:Γ.has 107 o3) (T6:Γ.has 106 rr) (T7:Γ.has 105 rl) (ds:List D) (h:lI.pre ds):bK Γ afC afD ds fun d=>d=lI.res ds:=by
 obtain⟨K,Q,w,rfl,cw,b9,aO,gp,gD⟩:=h
 have bO:lI.res [cd K Q,.int .i64 w]=iB (dh (an K Q) w):=by simp only[lI,cd,Int.toNat_natCast]
 rw[bO]
 have b4:=ft K Q
 have p1:=i107 cw b9
 have bA:=F5 K Q
 obtain⟨q,az8⟩:∃q,q=max (a0 (an K Q)) 3:=⟨_,rfl⟩
 have az9:=asA b4 (q:=q) (by omega) (by omega) (by omega)
 have awI:(if (3:Int)>((a0 (an K Q):Nat):Int)then (3:Int)else ((a0 (an K Q):Nat):Int))=(q:Int):=by split<;>omega
 have cq:rr.pre [.int .i64 q,.int .i64 w]:=⟨q,w,rfl,by omega,by omega,gp,gD⟩
 have bX:rr.res [.int .i64 q,.int .i64 w]= .recs 12 (hM w (q - 2)):=by
  simp only[rr,show ((q:Int) - 2).toNat=q - 2 by omega];rfl
 have fK:rl.pre [.agg [.int .i64 K,.int .i64 Q],.int .i64 w,.recs 12 (hM w (q - 2))]:=⟨K,Q,w,q - 2,rfl,cw,b9,by omega,by omega,gp,gD⟩
 have eJ:rl.res [.agg [.int .i64 K,.int .i64 Q],.int .i64 w,.recs 12 (hM w (q - 2))]=iB (dh (an K Q) w):=by simp only[rl,Int.toNat_natCast]
 generalize dh (an K Q) w=z at*
 generalize hM w (q - 2)=L at*
 generalize a0 (an K Q)=g at*
 generalize b5 (an K Q)=aAz at*
 unfold iB a2 aZ at eJ
 rw[gx]
 unfold afC afD
 refine bC (fun s=>s.af 1= .d (.int .i64 w)∧s.af 2= .box 2 0∧s.aA 2=some ⟨false,false,.cells [.d (.int .i64 K),.d (.int .i64 Q)]⟩∧dF 4 s∧dF 5 s) ?_ ?_
 ·simp (maxSteps:=9^9) only[↓al,ak,simprocAttr,cd,dF]
 rintro s ⟨h1,h2,aW,⟨aK,a9⟩,aG,bq⟩
 refine bC (fun s=>dF 4 s∧dF 5 s∧cL 6 z.c s∧cL 7 z.s s) ?_ ?_
 ·simp (maxSteps:=2000000) only[↓al,ak,↓reduceIte,reduceCtorEq,Nat.reduceEqDiff,Nat.reduceLeDiff,Nat.reduceSub,Nat.reduceAdd,Int.reduceToNat,Nat.reducePow,Int.reducePow,Int.reduceLE,Int.reduceLT,IntKind.bits,h1,h2,aW,aK,a9,aG,bq,yK,p1,bA,awI,T6,cq,bX,T7,fK,eJ,dF,cL]
  (repeat' apply And.intro)<;>decide
 clear h1 h2 aW aK a9 aG bq
 rintro s ⟨⟨aK,a9⟩,⟨aG,bq⟩,⟨aM,aY⟩,aS,b6⟩
 simp (maxSteps:=2000000) only[↓al,ak,↓reduceIte,reduceCtorEq,Nat.reduceEqDiff,Nat.reduceLeDiff,Nat.reduceSub,Nat.reduceAdd,Int.reduceToNat,Nat.reducePow,Int.reducePow,Int.reduceLE,Int.reduceLT,IntKind.bits,aK,a9,aG,bq,aM,aY,aS,b6,iB,a2,aZ]
 exact⟨by decide,by decide⟩
def jT:List D→Bool
 |[.int _ K,.int _ Q]=>decide (0≤Q∧Q≤40∧-1099511627776≤K∧K≤1099511627776) && decide (Q≤14)
 |_=>false
end RV.Dr
namespace RV.Dr
open Go RV RR
set_option linter.unusedSimpArgs false
set_option linter.unusedVariables false
set_option maxRecDepth 100000
set_option maxHeartbeats 8000000
theorem Nt {b:Bool} {a n:Nat} {I:bQ} (h:a<1152921504606846976) (aO:a0 a≤14) (aJ:n≤160) (eP:hC I (cF b a) n):fO b a n=I:=(Ip h aO aJ).uniq eP
theorem Jr (b:Bool) (m:Nat) (e:Int):bc (mk b m e)=az (dQ b m)*ax e:=by
 have:=su (E:=e) b m (Int.le_refl e)
 rw[kl (E:=e) (kg (Int.le_refl _)),this,Int.sub_self];simp
theorem QL {x:R} {V n z:Nat} (h1:az V≤x*ax 256) (h2:x*ax 256≤az V+az 2) (aJ:n≤256) (bh:z*2^(256 - n)<V) (bB:V+2<(z+1)*2^(256 - n)):hC ⟨mk false z (-n),mk false (z+1) (-n)⟩ x n:=by
 have es:ax 256=ax n*ax (256 - n:Nat):=by rw[←g7];congr 1;omega
 rw[es]at h1 h2
 have p:=c8 (-((256 - n:Nat):Int))
 have q:=oQ ((256 - n:Nat):Int)
 have pt:=c8 ((256 - n:Nat):Int)
 have bR:az z*ax (256 - n:Nat)<az V:=by
  rw[←iZ,←jP,l3];exact_mod_cast bh
 have bS:az V+az 2<(az z+1)*ax (256 - n:Nat):=by
  have:az V+az 2=az ((V+2:Nat):Int):=by rw[jm];rfl
  rw[this,←iZ,←oN,←jm,←jP,l3];exact_mod_cast bB
 have d1:az z<x*ax n:=by
  refine Std.not_le.1 fun k=> ?_
  have:=b0 (show 0≤az z - x*ax n by grind) (show 0≤ax (256 - n:Nat)by grind)
  grind
 have d2:x*ax n<az z+1:=by
  refine Std.not_le.1 fun k=> ?_
  have:=b0 (show 0≤x*ax n - (az z+1)by grind) (show 0≤ax (256 - n:Nat)by grind)
  grind
 have s7:az ((z+1:Nat):Int)=az z+1:=by rw[jm,oN]
 refine⟨⟨oV ..,oV ..⟩,kg (Int.le_refl _),kg (Int.le_refl _),z,(z+1:Nat),Jr ..,Jr ..,by grind,d2,by grind,by grind⟩
theorem El {x:R} {k:Int} {n:Nat} (h:x=az k):hC ⟨mk (decide (k<0)) k.natAbs 0,mk (decide (k<0)) k.natAbs 0⟩ x n:=by
 have e:bc (mk (decide (k<0)) k.natAbs 0)=az k:=by
  rw[Jr,uY]
  have:dQ (decide (k<0)) k.natAbs=k:=by
   unfold dQ
   by_cases h:k<0
   ·rw[decide_eq_true h,if_pos rfl];omega
   ·rw[decide_eq_false h,if_neg (by decide)];omega
  rw[this];grind
 have aX:az k=az (k*2^n)*ax (-n):=by
  have:=oQ (n:Int)
  rw[jo,gj,show az k*ax n*ax (-n)=az k*(ax n*ax (-n))by grind,this];grind
 have cc:x*ax n=az (k*2^n):=by rw[h,jo,gj]
 have o:=uT
 refine⟨⟨oV ..,oV ..⟩,kg (by omega),kg (by omega),k*2^n,k*2^n,by rw[e];exact aX,by rw[e];exact aX,by rw[cc];grind,by rw[cc];grind,by rw[cc];grind,by rw[cc];grind⟩
theorem T8:an 1 3=1*2^(60 - 3):=by decide
theorem aeK:an 1 4=1*2^(60 - 4):=by decide
theorem aeL:an 3 2=3*2^(60 - 2):=by decide
theorem aeM:an 1 2=1*2^(60 - 2):=by decide
theorem rW (a:Nat):cF false a=(pt a).dc:=rfl
theorem qu (a:Nat):cF true a=(pt a).de:=rfl
theorem pow_one (z:bD):z.pow 1=z:=bD.one_mul z
theorem lD:fO false (an 1 3) (1:Nat)=⟨⟨false,1,-1⟩,⟨false,1,0⟩⟩:=by
 have e:cF false (an 1 3)=ay 0:=by
  rw[rW,T8,pZ (by omega),pow_one];rfl
 have h:=(DL 0 (by omega)).1
 have:=QL (n:=1) (z:=1) h.1 h.2 (by omega) (by decide+kernel) (by decide+kernel)
 rw[←e]at this
 rw[Nt (ft _ _) (by have:=CU 1 (Q:=3) (by omega);omega) (by omega) this]
 decide+kernel
theorem O4:fO true (an 3 2) (9:Nat)=⟨⟨true,1,0⟩,⟨true,1,0⟩⟩:=by
 have e:cF true (an 3 2)=az (-1):=by
  rw[qu,aeL,pZ (by omega)]
  have:az (-1)= -1:=by rw[hI,e2]
  rw[this]
  simp only[bD.pow,un,bD.I,bD.one,bD.mul]
  grind
 rw[Nt (ft _ _) (by have:=CU 3 (Q:=2) (by omega);omega) (by omega) (El e)]
 decide+kernel
theorem ag6:fO false (an 1 4) (8:Nat)=⟨⟨false,59,-6⟩,⟨false,237,-8⟩⟩:=by
 have e:cF false (an 1 4)=ay 1:=by
  rw[rW,aeK,pZ (by omega),pow_one];rfl
 have h:=(DL 1 (by omega)).1
 have:=QL (n:=8) (z:=236) h.1 h.2 (by omega) (by decide+kernel) (by decide+kernel)
 rw[←e]at this
 rw[Nt (ft _ _) (by have:=CU 1 (Q:=4) (by omega);omega) (by omega) this]
 decide+kernel
end RV.Dr
namespace RV.Dr
open Go RV
set_option linter.unusedSimpArgs false
set_option linter.unusedVariables false
set_option maxRecDepth 100000
set_option maxHeartbeats 8000000
theorem apQ {b:Bool} {a n:Nat} (h:a<1152921504606846976) (aO:a0 a≤14) (aJ:n≤160):∀(k:Nat) (w:Int),0≤w→w+64*k≤800→(rU b a n k w).win (-20000) 201:=by
 have key:∀w:Int,0≤w→w≤800→(jq (zn b (dh a w)) n).win (-20000) 201:=fun w h0 h1=>by
  have hw:=IW (pI h aO) h0 h1
  have aj:(zn b (dh a w)).win (-20000) 200:=by
   cases b
   ·exact hw.1
   ·exact hw.2
  exact⟨Mx aj.1 (by omega) (by omega) (by omega),tn (Mx (tn aj.2) (by omega) (by omega) (by omega))⟩
 intro k
 induction k with
 |zero=>intro w h0 h1;exact key w h0 (by omega)
 |succ k cJ=>
  intro w h0 h1
  unfold rU
  split
  ·exact key w h0 (by omega)
  ·exact cJ (w+64) (by omega) (by omega)
theorem an9 {b:Bool} {a n:Nat} (h:a<1152921504606846976) (aO:a0 a≤14) (aJ:n≤160):(fO b a n).win (-20000) 201:=apQ h aO aJ 4 _ (by omega) (by omega)
theorem Ew {K Q:Int} (h:jT [.int .i64 K,.int .i64 Q]=true):∃q:Nat,Q=q∧q≤14∧aI K∧-1099511627776≤K∧K≤1099511627776:=by
 simp only[jT,Bool.and_eq_true,decide_eq_true_eq]at h
 refine⟨Q.toNat,by omega,by omega,?_,h.1.2.2.1,h.1.2.2.2⟩
 simp only[aI];omega
end RV.Dr
namespace RV.Dr
open Go RV RR
set_option linter.unusedSimpArgs false
set_option linter.unusedVariables false
set_option maxRecDepth 100000
def bG (b:Bool) (a:Nat):Nat:=cT (fO b a (160:Nat)).lo
theorem Sg {I:bQ} (h:I.win (-20000) 201) (bh:qf I.lo) (bB:qf I.hi):I.mid:=by
 have key:∀d:a8,d.win (-20000) 201→(au d.m).length≤8000∧-1000000≤d.e∧d.e≤1000000:=by
  intro d aD
  have l:=gh d.m
  by_cases h0:d.m=0
  ·have:=(aD.1.1 h0).2
   rw[h0,hv]
   refine⟨by simp,by omega,by omega⟩
  ·have:=aD.2 h0
   omega
 have a:=key _ h.1
 have b:=key _ h.2
 exact⟨bh,bB,a.1,b.1,a.2.1,a.2.2,b.2.1,b.2.2⟩
theorem Nu {b:Bool} {a n:Nat} (h:a<1152921504606846976) (aO:a0 a≤14) (aJ:n≤160):(fO b a n).mid:=by
 have eP:=(Ip (b:=b) h aO aJ).ends (k7 b a)
 have key:∀d:a8,d.win (-(n:Int)) 2→qf d:=by
  intro d aD h0
  have:=aD.2 h0
  have:=qR h0
  omega
 exact Sg (an9 h aO aJ) (key _ eP.1.1) (key _ eP.1.2)
theorem Bl {b:Bool} {a:Nat} (h:a<1152921504606846976) (aO:a0 a≤14):HS (cF b a):=by
 by_cases h0:bV a=0
 ·obtain⟨⟨k,e⟩,cX,e'⟩:=Iy h h0
  have r:=k7 b a
  cases b
  ·exact ZJ (show cF false a=az k from e) r
  ·exact ZJ (show cF true a=az cX from e') r
 ·have g:=ER h h0 (pI h aO)
  cases b
  ·exact aa3 (show j1 (cF false a)from g.1)
  ·exact aa3 (show j1 (cF true a)from g.2)
theorem Rg {I:bQ} {x:R} (m:I.mid) (cI:bc I.lo≤x) (dS:x≤bc I.hi) (h:cW (cT I.lo) (cT I.hi)=true):km x (cT I.lo):=by
 rw[RF m.1 m.2.1,decide_eq_true_eq]at h
 have a:=AV m.1
 have b:=AV m.2.1
 rw[←h]at b
 exact a.mid b cI dS
theorem X4 {I:bQ} {x δ:R} (m:I.mid) (cI:bc I.lo≤x) (dS:x≤bc I.hi) (aD:bc I.hi≤bc I.lo+δ) (qq:δ≤ax (-155)) (g:j1 x):cW (cT I.lo) (cT I.hi)=true:=by
 rw[RF m.1 m.2.1,decide_eq_true_eq]
 exact(AV m.1).close (AV m.2.1) cI dS aD qq g
theorem X5 {I:bQ} {x:R} (m:I.mid) (aN:bc I.lo=x) (aX:bc I.hi=x) (n:HS x):cW (cT I.lo) (cT I.hi)=true:=by
 rw[RF m.1 m.2.1,decide_eq_true_eq]
 have a:=AV m.1
 have b:=AV m.2.1
 rw[aN]at a
 rw[aX]at b
 exact a.uniq b n
theorem ZL {b:Bool} {a:Nat} (h:a<1152921504606846976) (aO:a0 a≤14):cW (cT (fO b a (160:Nat)).lo) (cT (fO b a (160:Nat)).hi)=true:=by
 have eP:=Ip (b:=b) (n:=160) h aO (by omega)
 have m:=Nu (b:=b) (n:=160) h aO (by omega)
 have l:=eP.J2
 by_cases h0:bV a=0
 ·obtain⟨⟨k,e⟩,cX,e'⟩:=Iy h h0
  have pt:(fO b a (160:Nat)).lo=(fO b a (160:Nat)).hi∧bc (fO b a (160:Nat)).lo=cF b a:=by
   cases b
   ·exact eP.abw (show cF false a=az k from e)
   ·exact eP.abw (show cF true a=az cX from e')
  exact X5 m pt.2 (pt.1▸pt.2) (Bl h aO)
 ·have g:=ER h h0 (pI h aO)
  have g:j1 (cF b a):=by
   cases b
   ·exact g.1
   ·exact g.2
  obtain⟨_,_,_,z,w,h1,h2,aq,aK,aG,aM⟩:=eP
  refine X4 m l.1 l.2 (δ:=ax (-159)) ?_ (iG (by omega)) g
  rw[h1,h2]
  have e:ax (-159)=ax (-((160:Nat):Int))+ax (-((160:Nat):Int)):=by rw[←fk];rfl
  have p:=c8 (-((160:Nat):Int))
  have:=b0 (show 0≤az z+(1+1) - az w by grind) (show 0≤ax (-((160:Nat):Int))by grind)
  grind
theorem jR {b:Bool} {a:Nat} (h:a<1152921504606846976) (aO:a0 a≤14):km (cF b a) (bG b a):=by
 have l:=(Ip (b:=b) (n:=160) h aO (by omega)).J2
 exact Rg (Nu h aO (by omega)) l.1 l.2 (ZL h aO)
theorem apR {b:Bool} {a n:Nat} (h:a<1152921504606846976) (aO:a0 a≤14) (aJ:n≤160) (hf:cW (cT (fO b a n).lo) (cT (fO b a n).hi)=true):cT (fO b a n).lo=bG b a:=by
 have l:=(Ip (b:=b) h aO aJ).J2
 exact(Rg (Nu h aO aJ) l.1 l.2 hf).uniq (jR h aO) (Bl h aO)
def fP (b:Bool) (p:dL):bQ:=if b=true then p.s else p.c
theorem Nv {b:Bool} {p:dL} {a:Nat} {δ:R} (h:kD p (pt a) δ):eK (fP b p) (cF b a) δ:=by
 cases b
 ·exact h.1
 ·exact h.2
theorem SE {b:Bool} {a k:Nat} (h:a<1152921504606846976) (aO:a0 a≤14):eK (fP b (dh a ((160+64*k:Nat):Int))) (cF b a) (ax (-61 - 32*(k:Int))):=by
 refine Nv ?_
 have:=NI (a:=a) (n:=160+64*k) (j:=77+32*k) h (pI h aO) (by omega) (by omega)
 rwa [show (16:Int) - ((77+32*k:Nat):Int)= -61 - 32*(k:Int)by omega]at this
theorem aao {b:Bool} {a:Nat} {w:Int} (h:a<1152921504606846976) (aO:a0 a≤14) (hw:0≤w) (gD:w≤800):(fP b (dh a w)).win (-20000) 201:=by
 have:=IW (a:=a) (pI h aO) hw gD
 cases b
 ·exact gJ this.1 (by omega) (by omega)
 ·exact gJ this.2 (by omega) (by omega)
theorem aap {d:a8} (h:d.win (-20000) 201) (k:d.m≠0→ax (-50)≤kO d):qf d:=by
 intro h0
 have a:=h.2 h0
 refine⟨?_,by omega⟩
 have b:=(NK h0).2
 have c:=k h0
 rw[show (9007199254740992:Nat)=2^53 by decide,iZ,←g7]at b
 by_cases bl: -1000≤d.e+a1 d.m
 ·exact bl
 ·exfalso
  have l:ax (((53:Nat):Int)+dC d)≤ax (-51):=iG (by unfold dC;omega)
  have e:ax (-50)=ax (-51)+ax (-51):=by rw[←fk];rfl
  have p:=c8 (-51)
  grind
theorem EH {b:Bool} {a k:Nat} (h:a<1152921504606846976) (aO:a0 a≤14) (ad:k≤3):(fP b (dh a ((160+64*k:Nat):Int))).mid:=by
 have w:=aao (b:=b) h aO (show 0≤((160+64*k:Nat):Int)by omega) (by omega)
 by_cases h0:bV a=0
 ·have qN:=Nv (b:=b) (ML (w:=((160+64*k:Nat):Int)) h h0)
  obtain⟨⟨i,e⟩,j,e'⟩:=Iy h h0
  have r:=k7 b a
  have ai7:∃i:Int,cF b a=az i:=by
   cases b
   ·exact⟨i,e⟩
   ·exact⟨j,e'⟩
  obtain⟨i,ayR⟩:=ai7
  generalize cF b a=x at*
  have aN:bc (fP b (dh a ((160+64*k:Nat):Int))).lo=x:=by unfold eK at qN;grind
  have aX:bc (fP b (dh a ((160+64*k:Nat):Int))).hi=x:=by unfold eK at qN;grind
  have Vo:ax (-50)≤1:=by rw[←uY];exact iG (by omega)
  have key:∀d:a8,d.win (-20000) 201→bc d=x→qf d:=by
   intro d aD aj
   refine aap aD (fun h0=> ?_)
   have p:=(NK h0).1
   have ajs:=c8 (dC d)
   have one:az ((1:Nat):Int)≤az ((4503599627370496:Nat):Int):=oR.2 (by omega)
   rw[oN]at one
   have pp:=b0 (show 0≤az ((4503599627370496:Nat):Int) - 1 by grind) (show 0≤ax (dC d)by grind)
   have pos:0<kO d:=by grind
   rw[Jg,ayR]at aj
   by_cases hi:i=0
   ·subst hi;rw[jO]at aj;split at aj<;>(exfalso;grind)
   ·rcases (by omega:i≤-1∨1≤i)with c|c
    ·have:=dU.2 c
     rw[hI,e2]at this
     split at aj<;>grind
    ·have:=dU.2 c
     rw[e2]at this
     split at aj<;>grind
  exact Sg w (key _ w.1 aN) (key _ w.2 aX)
 ·have qN:=SE (b:=b) (k:=k) h aO
  have g:=ER h h0 (pI h aO)
  have g:j1 (cF b a):=by
   cases b
   ·exact g.1
   ·exact g.2
  have l:ax (-61 - 32*(k:Int))≤ax (-50):=iG (by omega)
  have e:ax (-49)=ax (-50)+ax (-50):=by rw[←fk];rfl
  have p:=c8 (-50)
  have WJ:=SD g
  unfold eK at qN
  have key:∀d:a8,d.win (-20000) 201→bc d≤cF b a+ax (-50)→cF b a≤bc d+ax (-50)→qf d:=by
   intro d aD bu bs
   refine aap aD (fun h0=> ?_)
   have aAA:=apL d
   rw[Jg]at bu bs
   split at bu<;>rcases WJ with WJ|WJ<;>grind
  exact Sg w (key _ w.1 (by grind) (by grind)) (key _ w.2 (by grind) (by grind))
theorem Nw {b:Bool} {a k:Nat} (h:a<1152921504606846976) (aO:a0 a≤14) (ad:k≤3) (hf:cW (cT (fP b (dh a ((160+64*k:Nat):Int))).lo) (cT (fP b (dh a ((160+64*k:Nat):Int))).hi)=true):cT (fP b (dh a ((160+64*k:Nat):Int))).lo=bG b a:=by
 have qN:=SE (b:=b) (k:=k) h aO
 exact(Rg (EH h aO ad) qN.1 qN.2.1 hf).uniq (jR h aO) (Bl h aO)
theorem ZM {b:Bool} {a:Nat} (h:a<1152921504606846976) (aO:a0 a≤14):cW (cT (fP b (dh a ((160+64*3:Nat):Int))).lo) (cT (fP b (dh a ((160+64*3:Nat):Int))).hi)=true:=by
 have m:=EH (b:=b) (k:=3) h aO (by omega)
 by_cases h0:bV a=0
 ·have qN:=Nv (b:=b) (ML (w:=((160+64*3:Nat):Int)) h h0)
  unfold eK at qN
  exact X5 m (x:=cF b a) (by grind) (by grind) (Bl h aO)
 ·have qN:=SE (b:=b) (k:=3) h aO
  have g:=ER h h0 (pI h aO)
  have g:j1 (cF b a):=by
   cases b
   ·exact g.1
   ·exact g.2
  unfold eK at qN
  have l:ax (-61 - 32*((3:Nat):Int))+ax (-61 - 32*((3:Nat):Int))=ax (-156):=by rw[←fk];rfl
  refine X4 m qN.1 qN.2.1 (δ:=ax (-156)) (by grind) (iG (by omega)) g
end RV.Dr
namespace RV.Dr
open Go RV RR
set_option linter.unusedSimpArgs false
set_option linter.unusedVariables false
set_option maxRecDepth 100000
set_option maxHeartbeats 4000000
def za (b:Bool):Nat:=if b=true then 97 else 95
def lJ:br where
 pre:=fun ds=>∃(K:Int) (Q:Nat) (b:Bool),ds=[cd K Q,.fn (za b) [] []]∧Q≤60∧a0 (an K Q)≤14
 res:=fun ds=>match ds with
  |[.agg [.int _ K,.int _ Q],.fn f _ _]=> .flt (bG (decide (f=97)) (an K Q.toNat))
  |_=> .nilp
def L4 (K Q:Int) (b:Bool) (n:Nat) (s:St):Prop:=s.af 1= .d (.fn (za b) [] [])∧s.af 2= .box 2 0∧s.aA 2=some ⟨false,false,.cells [.d (.int .i64 K),.d (.int .i64 Q)]⟩∧s.af 6= .d (.int .i64 n)
theorem Ht (Γ:Env) (ah8:Γ.has 95 mL) (ah9:Γ.has 97 mM) (ON:Γ.has 145 lq) (OO:Γ.has 146 ud) (ds:List D) (h:lJ.pre ds):C3 Γ adt adu ata agX ds fun d=>d=lJ.res ds:=by
 obtain⟨K,Q,b,rfl,cw,aO⟩:=h
 have bO:lJ.res [cd K Q,.fn (za b) [] []]= .flt (bG b (an K Q)):=by
  have:decide (za b=97)=b:=by cases b<;>decide
  simp only[lJ,cd,Int.toNat_natCast,this]
 rw[bO]
 have b4:=ft K Q
 have fV:∀n:Nat,n≤160→mL.pre [.agg [.int .i64 K,.int .i64 Q],.int .i64 n]:=fun n aJ=>⟨K,Q,n,rfl,cw,aO,aJ⟩
 have ps:∀n:Nat,n≤160→mM.pre [.agg [.int .i64 K,.int .i64 Q],.int .i64 n]:=fun n aJ=>⟨K,Q,n,rfl,cw,aO,aJ⟩
 have rc:∀n:Nat,mL.res [.agg [.int .i64 K,.int .i64 Q],.int .i64 n]=a2 (fO false (an K Q) n):=fun n=>by simp only[mL,Int.toNat_natCast]
 have rs:∀n:Nat,mM.res [.agg [.int .i64 K,.int .i64 Q],.int .i64 n]=a2 (fO true (an K Q) n):=fun n=>by simp only[mM,Int.toNat_natCast]
 have mid:∀n:Nat,n≤160→(fO b (an K Q) n).mid:=fun n aJ=>Nu b4 aO aJ
 have kv:∀n:Nat,n≤160→cW (cT (fO b (an K Q) n).lo) (cT (fO b (an K Q) n).hi)=true→cT (fO b (an K Q) n).lo=bG b (an K Q):=fun n aJ=>apR b4 aO aJ
 have last:=ZL (b:=b) b4 aO
 generalize an K Q=a at*
 generalize bG b a=F at*
 unfold C3
 refine kb (Q:=fun e s=>match e with| .normal=>s.af 1= .d (.fn (za b) [] [])∧s.af 2= .box 2 0∧s.aA 2=some ⟨false,false,.cells [.d (.int .i64 K),.d (.int .i64 Q)]⟩|_=>False) _ ?_ ?_
 rotate_left
 ·simp (maxSteps:=9^9) only[↓al,ak,simprocAttr,adt,cd]
 rintro e s he
 cases e with
 |ret=>exact he.elim
 |exit j=>exact he.elim
 |normal=>
  obtain⟨h1,h2,aW⟩:=he
  refine⟨fun _=>False,fun _=>0,?_,fun s h=>h.elim⟩
  unfold adu
  simp only[lC,IF]
  refine zD (fun s=>s.af 1= .d (.fn (za b) [] [])∧s.af 2= .box 2 0∧s.aA 2=some ⟨false,false,.cells [.d (.int .i64 K),.d (.int .i64 Q)]⟩) ?_ ?_
  ·simp (maxSteps:=9^9) only[↓al,ak,simprocAttr,h1,h2,aW]
  clear h1 h2 aW
  rintro s ⟨h1,h2,aW⟩
  refine cB (fun s=>s.af 5= .d (.flt F)) ?_ ?_
  rotate_left
  ·rintro s aG
   simp (maxSteps:=9^9) only[↓al,ak,simprocAttr,aG,agX]
  refine bC (L4 K Q b 110) ?_ ?_
  ·simp (maxSteps:=9^9) only[↓al,ak,simprocAttr,h1,h2,aW,L4]
   try rfl
  clear h1 h2 aW
  rintro s h0
  show cb Γ (.block 0 (.loop _)) _ _
  simp only[ka]
  refine eV (fun s=>∃m:Nat,m≤1∧L4 K Q b (110+50*m) s) (fun s=>match s.af 6 with| .d (.int _ n)=>(1000 - n).toNat|_=>0) ⟨0,by omega,h0⟩ ?_
  clear h0
  rintro s ⟨m,hm,h1,h2,aW,aM⟩
  obtain⟨n,aJ⟩:∃n,n=110+50*m:=⟨_,rfl⟩
  rw[←aJ]at aM
  have sI:n≤160:=by omega
  have mid:=mid n sI
  have kv:=kv n sI
  have fV:=fV n sI
  have ps:=ps n sI
  have rc:=rc n
  have rs:=rs n
  have last:m=1→cW (cT (fO b a n).lo) (cT (fO b a n).hi)=true:=fun e=>by
   rw[aJ,e];exact last
  obtain⟨x,aj⟩:∃x,x=fO b a n:=⟨_,rfl⟩
  rw[←aj]at mid kv last
  have jL:(if b=true then mM.res [.agg [.int .i64 K,.int .i64 Q],.int .i64 n]else mL.res [.agg [.int .i64 K,.int .i64 Q],.int .i64 n])=a2 x:=by
   rw[aj];cases b
   ·exact rc
   ·exact rs
  clear rc rs aj
  have p1:lq.pre [.agg [.bool x.lo.neg,.ints .i64 (au x.lo.m),.int .i64 x.lo.e]]:=⟨x.lo,rfl,mid.1,mid.2.2.1,mid.2.2.2.2.1,mid.2.2.2.2.2.1⟩
  have cq:lq.pre [.agg [.bool x.hi.neg,.ints .i64 (au x.hi.m),.int .i64 x.hi.e]]:=⟨x.hi,rfl,mid.2.1,mid.2.2.2.1,mid.2.2.2.2.2.2⟩
  have bA:lq.res [.agg [.bool x.lo.neg,.ints .i64 (au x.lo.m),.int .i64 x.lo.e]]= .flt (cT x.lo):=by simp only[lq,ck]
  have bX:lq.res [.agg [.bool x.hi.neg,.ints .i64 (au x.hi.m),.int .i64 x.hi.e]]= .flt (cT x.hi):=by simp only[lq,ck]
  have fK:ud.pre [.flt (cT x.lo),.flt (cT x.hi)]:=⟨_,_,rfl,IA mid.1,IA mid.2.1,(AV mid.1).lt,(AV mid.2.1).lt⟩
  have eJ:ud.res [.flt (cT x.lo),.flt (cT x.hi)]= .bool (cW (cT x.lo) (cT x.hi)):=rfl
  generalize cT x.lo=u at*
  generalize cT x.hi=v at*
  have bR:¬((n:Int)>350):=by omega
  have i1:aI ((n:Int)+50):=by simp only[aI];omega
  unfold a2 aZ at jL
  cases hf:cW u v with
  |true=>
   rw[hf]at eJ
   have kv:=kv hf
   subst kv
   cases b with
   |false=>
    have hG:za false=95:=rfl
    rw[hG]at h1
    have jL:mL.res [.agg [.int .i64 K,.int .i64 Q],.int .i64 n]=_:=jL
    simp (maxSteps:=9^9) only[↓al,ak,simprocAttr,h1,h2,aW,aM,ah8,fV,jL,ON,p1,bA,cq,bX,OO,fK,eJ]
   |true=>
    have hG:za true=97:=rfl
    rw[hG]at h1
    have jL:mM.res [.agg [.int .i64 K,.int .i64 Q],.int .i64 n]=_:=jL
    simp (maxSteps:=9^9) only[↓al,ak,simprocAttr,h1,h2,aW,aM,ah9,ps,jL,ON,p1,bA,cq,bX,OO,fK,eJ]
  |false=>
   rw[hf]at eJ
   have KB:m=0:=by
    rcases (by omega:m=0∨m=1)with e|e
    ·exact e
    ·have:=last e;rw[hf]at this;cases this
   have kT:(n:Int)+50=((110+50*1:Nat):Int):=by omega
   cases b with
   |false=>
    have hG:za false=95:=rfl
    rw[hG]at h1
    have jL:mL.res [.agg [.int .i64 K,.int .i64 Q],.int .i64 n]=_:=jL
    simp (maxSteps:=9^9) only[↓al,ak,simprocAttr,h1,h2,aW,aM,ah8,fV,jL,ON,p1,bA,cq,bX,OO,fK,eJ,bR,i1,L4,hG]
    refine⟨⟨1,by omega,by rw[kT]⟩,by omega⟩
   |true=>
    have hG:za true=97:=rfl
    rw[hG]at h1
    have jL:mM.res [.agg [.int .i64 K,.int .i64 Q],.int .i64 n]=_:=jL
    simp (maxSteps:=9^9) only[↓al,ak,simprocAttr,h1,h2,aW,aM,ah9,ps,jL,ON,p1,bA,cq,bX,OO,fK,eJ,bR,i1,L4,hG]
    refine⟨⟨1,by omega,by rw[kT]⟩,by omega⟩
end RV.Dr
namespace RV.Dr
open Go RV RR
set_option linter.unusedSimpArgs false
set_option linter.unusedVariables false
set_option maxRecDepth 100000
set_option maxHeartbeats 4000000
def dX:br where
 pre:=fun ds=>∃(K:Int) (Q:Nat),ds=[cd K Q]∧Q≤60∧a0 (an K Q)≤14
 res:=fun ds=>match ds with
  |[.agg [.int _ K,.int _ Q]]=> .flt (bG false (an K Q.toNat))
  |_=> .nilp
theorem Hu (Γ:Env) (VV:Γ.has 94 lJ) (ds:List D) (h:dX.pre ds):bK Γ afX afY ds fun d=>d=dX.res ds:=by
 obtain⟨K,Q,rfl,cw,aO⟩:=h
 have bO:dX.res [cd K Q]= .flt (bG false (an K Q)):=by simp only[dX,cd,Int.toNat_natCast]
 rw[bO]
 have p1:lJ.pre [.agg [.int .i64 K,.int .i64 Q],.fn 95 [] []]:=⟨K,Q,false,rfl,cw,aO⟩
 have bA:lJ.res [.agg [.int .i64 K,.int .i64 Q],.fn 95 [] []]= .flt (bG false (an K Q)):=by
  have:decide (95=97)=false:=by decide
  simp only[lJ,Int.toNat_natCast,this]
 unfold cd
 generalize bG false (an K Q)=F at*
 simp (maxSteps:=9^9) only[↓al,ak,simprocAttr,afX,afY,VV,p1,bA]
def ed:br where
 pre:=fun ds=>∃(K:Int) (Q:Nat),ds=[cd K Q]∧Q≤60∧a0 (an K Q)≤14
 res:=fun ds=>match ds with
  |[.agg [.int _ K,.int _ Q]]=> .flt (bG true (an K Q.toNat))
  |_=> .nilp
theorem Hv (Γ:Env) (VV:Γ.has 94 lJ) (ds:List D) (h:ed.pre ds):bK Γ agG agH ds fun d=>d=ed.res ds:=by
 obtain⟨K,Q,rfl,cw,aO⟩:=h
 have bO:ed.res [cd K Q]= .flt (bG true (an K Q)):=by simp only[ed,cd,Int.toNat_natCast]
 rw[bO]
 have p1:lJ.pre [.agg [.int .i64 K,.int .i64 Q],.fn 97 [] []]:=⟨K,Q,true,rfl,cw,aO⟩
 have bA:lJ.res [.agg [.int .i64 K,.int .i64 Q],.fn 97 [] []]= .flt (bG true (an K Q)):=by
  simp only[lJ,Int.toNat_natCast,decide_true]
 unfold cd
 generalize bG true (an K Q)=F at*
 simp (maxSteps:=9^9) only[↓al,ak,simprocAttr,agG,agH,VV,p1,bA]
def Cn (K Q:Int) (m:Nat) (s:St):Prop:=s.af 1= .box 1 0∧s.aA 1=some ⟨false,false,.cells [.d (.int .i64 K),.d (.int .i64 Q)]⟩∧s.af 3= .d (.int .i64 ((160+64*m:Nat):Int))
def s0:br where
 pre:=fun ds=>∃(K:Int) (Q:Nat),ds=[cd K Q]∧Q≤60∧a0 (an K Q)≤14∧aI K
 res:=fun ds=>match ds with
  |[.agg [.int _ K,.int _ Q]]=> .flt (bG false (an K Q.toNat))
  |_=> .nilp
theorem awJ (Γ:Env) (DQ:Γ.has 51 lI) (Cc:Γ.has 96 ku) (ds:List D) (h:s0.pre ds):bK Γ agi agj ds fun d=>d=s0.res ds:=by
 obtain⟨K,Q,rfl,cw,aO,b9⟩:=h
 have bO:s0.res [cd K Q]= .flt (bG false (an K Q)):=by simp only[s0,cd,Int.toNat_natCast]
 rw[bO]
 have b4:=ft K Q
 have fV:∀m:Nat,m≤3→lI.pre [.agg [.int .i64 K,.int .i64 Q],.int .i64 ((160+64*m:Nat):Int)]:=fun m hm=>⟨K,Q,((160+64*m:Nat):Int),rfl,cw,b9,aO,by omega,by omega⟩
 have rc:∀m:Nat,lI.res [.agg [.int .i64 K,.int .i64 Q],.int .i64 ((160+64*m:Nat):Int)]=iB (dh (an K Q) ((160+64*m:Nat):Int)):=fun m=>by simp only[lI,Int.toNat_natCast]
 have mid:∀m:Nat,m≤3→(fP false (dh (an K Q) ((160+64*m:Nat):Int))).mid:=fun m hm=>EH b4 aO hm
 have kv:∀m:Nat,m≤3→cW (cT (fP false (dh (an K Q) ((160+64*m:Nat):Int))).lo) (cT (fP false (dh (an K Q) ((160+64*m:Nat):Int))).hi)=true→cT (fP false (dh (an K Q) ((160+64*m:Nat):Int))).lo=bG false (an K Q):=fun m hm=>Nw b4 aO hm
 have last:=ZM (b:=false) b4 aO
 generalize an K Q=a at*
 generalize bG false a=F at*
 rw[gx]
 unfold agi agj
 refine bC (fun s=>s.af 1= .box 1 0∧s.aA 1=some ⟨false,false,.cells [.d (.int .i64 K),.d (.int .i64 Q)]⟩) ?_ ?_
 ·simp (maxSteps:=9^9) only[↓al,ak,simprocAttr,cd]
 rintro s ⟨h1,bM⟩
 refine bC (Cn K Q 0) ?_ ?_
 ·simp (maxSteps:=9^9) only[↓al,ak,simprocAttr,h1,bM,Cn]
  try rfl
 clear h1 bM
 rintro s h0
 show cb Γ (.block 0 (.loop _)) _ _
 simp only[ka]
 refine eV (fun s=>∃m:Nat,m≤3∧Cn K Q m s) (fun s=>match s.af 3 with| .d (.int _ n)=>(1000 - n).toNat|_=>0) ⟨0,by omega,h0⟩ ?_
 clear h0
 rintro s ⟨m,hm,h1,bM,aq⟩
 have mid:=mid m hm
 have kv:=kv m hm
 have fV:=fV m hm
 have rc:=rc m
 have last:m=3→cW (cT (fP false (dh a ((160+64*m:Nat):Int))).lo) (cT (fP false (dh a ((160+64*m:Nat):Int))).hi)=true:=fun e=>by
  rw[e];exact last
 have i1:aI (((160+64*m:Nat):Int)+64):=by simp only[aI];omega
 have aN:((160+64*m:Nat):Int)+64=((160+64*(m+1):Nat):Int):=by omega
 have b8:((160+64*m:Nat):Int)=160+64*(m:Int):=by omega
 generalize dh a ((160+64*m:Nat):Int)=p at*
 have p1:ku.pre [a2 (fP false p)]:=⟨_,rfl,mid⟩
 have bA:ku.res [a2 (fP false p)]=y9 (fP false p):=by simp only[ku,a2,aZ,dY]
 have Cm:fP false p=p.c:=rfl
 rw[Cm]at p1 bA mid kv last
 unfold y9 at bA
 generalize cT p.c.lo=u at*
 generalize cT p.c.hi=v at*
 unfold a2 aZ at p1 bA
 generalize ((160+64*m:Nat):Int)=w at*
 cases hf:cW u v with
 |true=>
  rw[hf]at bA
  have kv:=kv hf
  subst kv
  simp (maxSteps:=9^9) only[↓al,ak,simprocAttr,h1,bM,aq,DQ,fV,rc,iB,a2,aZ,Cc,p1,bA]
  try trivial
 |false=>
  rw[hf]at bA
  have KB:m<3:=by
   rcases (by omega:m<3∨m=3)with e|e
   ·exact e
   ·have:=last e;rw[hf]at this;cases this
  simp (maxSteps:=9^9) only[↓al,ak,simprocAttr,h1,bM,aq,DQ,fV,rc,iB,a2,aZ,Cc,p1,bA,i1,Cn]
  exact⟨⟨m+1,by omega,by rw[aN]⟩,by omega⟩
def s3:br where
 pre:=fun ds=>∃(K:Int) (Q:Nat),ds=[cd K Q]∧Q≤60∧a0 (an K Q)≤14∧aI K
 res:=fun ds=>match ds with
  |[.agg [.int _ K,.int _ Q]]=> .flt (bG true (an K Q.toNat))
  |_=> .nilp
theorem awK (Γ:Env) (DQ:Γ.has 51 lI) (Cc:Γ.has 96 ku) (ds:List D) (h:s3.pre ds):bK Γ afA afB ds fun d=>d=s3.res ds:=by
 obtain⟨K,Q,rfl,cw,aO,b9⟩:=h
 have bO:s3.res [cd K Q]= .flt (bG true (an K Q)):=by simp only[s3,cd,Int.toNat_natCast]
 rw[bO]
 have b4:=ft K Q
 have fV:∀m:Nat,m≤3→lI.pre [.agg [.int .i64 K,.int .i64 Q],.int .i64 ((160+64*m:Nat):Int)]:=fun m hm=>⟨K,Q,((160+64*m:Nat):Int),rfl,cw,b9,aO,by omega,by omega⟩
 have rc:∀m:Nat,lI.res [.agg [.int .i64 K,.int .i64 Q],.int .i64 ((160+64*m:Nat):Int)]=iB (dh (an K Q) ((160+64*m:Nat):Int)):=fun m=>by simp only[lI,Int.toNat_natCast]
 have mid:∀m:Nat,m≤3→(fP true (dh (an K Q) ((160+64*m:Nat):Int))).mid:=fun m hm=>EH b4 aO hm
 have kv:∀m:Nat,m≤3→cW (cT (fP true (dh (an K Q) ((160+64*m:Nat):Int))).lo) (cT (fP true (dh (an K Q) ((160+64*m:Nat):Int))).hi)=true→cT (fP true (dh (an K Q) ((160+64*m:Nat):Int))).lo=bG true (an K Q):=fun m hm=>Nw b4 aO hm
 have last:=ZM (b:=true) b4 aO
 generalize an K Q=a at*
 generalize bG true a=F at*
 rw[gx]
 unfold afA afB
 refine bC (fun s=>s.af 1= .box 1 0∧s.aA 1=some ⟨false,false,.cells [.d (.int .i64 K),.d (.int .i64 Q)]⟩) ?_ ?_
 ·simp (maxSteps:=9^9) only[↓al,ak,simprocAttr,cd]
 rintro s ⟨h1,bM⟩
 refine bC (Cn K Q 0) ?_ ?_
 ·simp (maxSteps:=9^9) only[↓al,ak,simprocAttr,h1,bM,Cn]
  try rfl
 clear h1 bM
 rintro s h0
 show cb Γ (.block 0 (.loop _)) _ _
 simp only[ka]
 refine eV (fun s=>∃m:Nat,m≤3∧Cn K Q m s) (fun s=>match s.af 3 with| .d (.int _ n)=>(1000 - n).toNat|_=>0) ⟨0,by omega,h0⟩ ?_
 clear h0
 rintro s ⟨m,hm,h1,bM,aq⟩
 have mid:=mid m hm
 have kv:=kv m hm
 have fV:=fV m hm
 have rc:=rc m
 have last:m=3→cW (cT (fP true (dh a ((160+64*m:Nat):Int))).lo) (cT (fP true (dh a ((160+64*m:Nat):Int))).hi)=true:=fun e=>by
  rw[e];exact last
 have i1:aI (((160+64*m:Nat):Int)+64):=by simp only[aI];omega
 have aN:((160+64*m:Nat):Int)+64=((160+64*(m+1):Nat):Int):=by omega
 have b8:((160+64*m:Nat):Int)=160+64*(m:Int):=by omega
 generalize dh a ((160+64*m:Nat):Int)=p at*
 have p1:ku.pre [a2 (fP true p)]:=⟨_,rfl,mid⟩
 have bA:ku.res [a2 (fP true p)]=y9 (fP true p):=by simp only[ku,a2,aZ,dY]
 have Cm:fP true p=p.s:=rfl
 rw[Cm]at p1 bA mid kv last
 unfold y9 at bA
 generalize cT p.s.lo=u at*
 generalize cT p.s.hi=v at*
 unfold a2 aZ at p1 bA
 generalize ((160+64*m:Nat):Int)=w at*
 cases hf:cW u v with
 |true=>
  rw[hf]at bA
  have kv:=kv hf
  subst kv
  simp (maxSteps:=9^9) only[↓al,ak,simprocAttr,h1,bM,aq,DQ,fV,rc,iB,a2,aZ,Cc,p1,bA]
  try trivial
 |false=>
  rw[hf]at bA
  have KB:m<3:=by
   rcases (by omega:m<3∨m=3)with e|e
   ·exact e
   ·have:=last e;rw[hf]at this;cases this
  simp (maxSteps:=9^9) only[↓al,ak,simprocAttr,h1,bM,aq,DQ,fV,rc,iB,a2,aZ,Cc,p1,bA,i1,Cn]
  exact⟨⟨m+1,by omega,by rw[aN]⟩,by omega⟩
end RV.Dr
namespace RV.Dr
open Go RV RR
set_option linter.unusedSimpArgs false
set_option linter.unusedVariables false
set_option maxRecDepth 100000
set_option maxHeartbeats 4000000
def kF:Nat:=9223372036854775808
def ht (x:R) (w:Nat):Prop:=km x w∨(x=0∧w=kF)
theorem arE:Fin kF:=⟨true,0,-1074,by decide⟩
theorem ht.neg {x:R} {w:Nat} (h:ht x w):ht (-x) (hb w):=by
 rcases h with (⟨aj,rfl⟩|⟨s,r,y,jH,aj,rfl,h1,h2,hm⟩)|⟨aj,rfl⟩
 ·exact .inr ⟨by grind,YI⟩
 ·refine .inl (.inr ⟨!s,r,y,jH,?_,IZ (by omega) (by omega),h1,h2,hm⟩)
  rw[aj];cases s
  ·rfl
  ·simp only[if_true,Bool.not_true,Bool.false_eq_true,if_false];grind
 ·exact .inl (.inl ⟨by grind,by decide⟩)
theorem ht.fin {x:R} {w:Nat} (h:ht x w):Fin w:=by
 rcases h with h|⟨_,rfl⟩
 ·exact h.fin
 ·exact arE
theorem ht.same {x:R} {w v:Nat} (h:ht x w) (k:ht x v) (n:HS x):cW w v=true:=by
 have aN:cW kF 0=true:=by decide
 have aX:cW 0 kF=true:=by decide
 have cc:cW kF kF=true:=by decide
 have z:∀{u:Nat},x=0→km x u→u=0:=by
  intro u aj hu
  rcases hu with ⟨_,e⟩|⟨s,r,y,jH,hy,_⟩
  ·exact e
  ·exfalso;rw[aj]at hy;split at hy<;>grind
 rcases h with h|⟨aj,rfl⟩<;>rcases k with k|⟨j6,rfl⟩
 ·rw[h.uniq k n,tr k.fin]
 ·rw[z j6 h];exact aX
 ·rw[z aj k];exact aN
 ·exact cc
def iW (a:Nat):Nat×Nat:=
 let z:Nat×Nat:=if ca a=1∨ca a=2∨ca a=5∨ca a=6 then (bG true (bV a),bG false (bV a))else (bG false (bV a),bG true (bV a))
 let z:=if 2≤ca a∧ca a≤5 then (hb z.1,z.2)else z
 if 4≤ca a then (z.1,hb z.2)else z
theorem N2 (a:Nat):bV a<1152921504606846976:=by have:=CV a;omega
theorem abB {a:Nat} (h:a<1152921504606846976) (aO:a0 a≤14):ht (cF false a) (iW a).1∧ht (cF true a) (iW a).2:=by
 show ht (pt a).dc (iW a).1∧ht (pt a).de (iW a).2
 rw[NH h]
 have bA:ht (pt (bV a)).dc (bG false (bV a)):= .inl (jR (b:=false) (N2 a) (pI h aO))
 have bX:ht (pt (bV a)).de (bG true (bV a)):= .inl (jR (b:=true) (N2 a) (pI h aO))
 unfold iW Hn
 generalize bG false (bV a)=u at*
 generalize bG true (bV a)=v at*
 generalize pt (bV a)=z at*
 generalize ca a=e at*
 simp only
 have key:∀(c:Prop) [Decidable c] (z fU:bD) (p dx:Nat×Nat),ht z.dc p.1∧ht z.de p.2→ht fU.dc dx.1∧ht fU.de dx.2→ht (if c then fU else z).dc (if c then dx else p).1∧ht (if c then fU else z).de (if c then dx else p).2:=by
  intro c _ z fU p dx h1 h2
  split
  ·exact h2
  ·exact h1
 have bu:=key (e=1∨e=2∨e=5∨e=6) z ⟨z.de,z.dc⟩ (u,v) (v,u) ⟨bA,bX⟩ ⟨bX,bA⟩
 generalize (if e=1∨e=2∨e=5∨e=6 then (⟨z.de,z.dc⟩:bD)else z)=eZ at*
 generalize (if e=1∨e=2∨e=5∨e=6 then (v,u)else (u,v))=p1 at*
 have bs:=key (2≤e∧e≤5) eZ ⟨-eZ.dc,eZ.de⟩ p1 (hb p1.1,p1.2) bu ⟨bu.1.neg,bu.2⟩
 generalize (if 2≤e∧e≤5 then (⟨-eZ.dc,eZ.de⟩:bD)else eZ)=gU at*
 generalize (if 2≤e∧e≤5 then (hb p1.1,p1.2)else p1)=cq at*
 exact key (4≤e) gU ⟨gU.dc,-gU.de⟩ cq (cq.1,hb cq.2) bs ⟨bs.1,bs.2.neg⟩
theorem aaq {a:Nat} (h:a<1152921504606846976) (aO:a0 a≤14):cW (iW a).1 (bG false a)=true∧cW (iW a).2 (bG true a)=true:=by
 obtain⟨h1,h2⟩:=abB h aO
 exact⟨h1.same (.inl (jR h aO)) (Bl h aO),h2.same (.inl (jR h aO)) (Bl h aO)⟩
def r6 (r:Nat):D:= .agg [.flt (bG false r),.flt (bG true r)]
def k2 (a:Nat):D:= .agg [.flt (iW a).1,.flt (iW a).2]
def Bm (es:List (List Int×D)):Prop:=∀ks d,kc es ks=some d→∃K Q:Int,ks=[K,Q]∧d=r6 (an K Q.toNat)
theorem aln {es:List (List Int×D)} {k j:List Int} {d:D} :kc (qW es k d) j=if k=j then some d else kc es j:=by
 induction es with
 |nil=>rfl
 |cons p r cJ=>
  obtain⟨i,v⟩:=p
  unfold qW
  by_cases h:i=k
  ·subst h
   rw[if_pos rfl]
   unfold kc
   by_cases e:i=j
   ·rw[if_pos e,if_pos e]
   ·rw[if_neg e,if_neg e,if_neg e]
  ·rw[if_neg h]
   unfold kc
   by_cases e:i=j
   ·rw[if_pos e,if_pos e]
    subst e
    rw[if_neg (fun e=>h e.symm)]
   ·rw[if_neg e,if_neg e,cJ]
def yr (es:List (List Int×D)) (a:Nat):List (List Int×D):=match kc es [(b5 (bV a):Int),(a0 (bV a):Int)]with
 |some _=>es
 |none=>qW es [(b5 (bV a):Int),(a0 (bV a):Int)] (r6 (bV a))
theorem amv {es:List (List Int×D)} (h:Bm es) (a:Nat):Bm (yr es a):=by
 unfold yr
 split
 ·exact h
 ·intro ks d aD
  rw[aln]at aD
  split at aD
  ·rename_i e
   simp only[Option.some.injEq]at aD
   exact⟨_,_,e.symm,by rw[←aD,Int.toNat_natCast,kj (N2 a)]⟩
  ·exact h _ _ aD
def kP:gu where
 pre:=fun a4 cs=>∃(K:Int) (Q:Nat) (es:List (List Int×D)),a4=[.agg [.d (.int .i64 K),.d (.int .i64 Q)],.mp bF]∧cs=[.map 2 es]∧Bm es∧Q≤60∧a0 (an K Q)≤14
 res:=fun a4 cs=>match a4 with
  |[.agg [.d (.int _ K),.d (.int _ Q)],_]=>k2 (an K Q.toNat)
  |_=> .nilp
 out:=fun a4 cs=>match a4,cs with
  |[.agg [.d (.int _ K),.d (.int _ Q)],_],[.map 2 es]=>[.map 2 (yr es (an K Q.toNat))]
  |_,_=>[]
theorem GC (Γ:Env) (T1:Γ.has 151 ln) (T2:Γ.has 152 mf) (pk:Γ.has 44 dX) (pn:Γ.has 46 ed) (a4:List ag) (cs:List BC) (h:kP.pre a4 cs):l7 Γ acg ach a4 cs fun d cs'=>d=kP.res a4 cs∧cs'=kP.out a4 cs:=by
 obtain⟨K,Q,es,rfl,rfl,hm,cw,aO⟩:=h
 have b4:=ft K Q
 have bO:kP.res [.agg [.d (.int .i64 K),.d (.int .i64 Q)],.mp bF] [.map 2 es]=k2 (an K Q):=by simp only[kP,Int.toNat_natCast]
 have fZ:kP.out [.agg [.d (.int .i64 K),.d (.int .i64 Q)],.mp bF] [.map 2 es]=[.map 2 (yr es (an K Q))]:=by simp only[kP,Int.toNat_natCast]
 rw[bO,fZ]
 have iA:ln.pre [.agg [.int .i64 K,.int .i64 Q]]:=⟨K,Q,rfl,cw⟩
 have ic:ln.res [.agg [.int .i64 K,.int .i64 Q]]=vP (an K Q):=by simp only[ln,Int.toNat_natCast]
 generalize an K Q=a at*
 have AB:=N2 a
 have gr:=pI b4 aO
 have HC:=Bj b4
 have fp:dX.pre [.agg [.int .i64 (b5 (bV a)),.int .i64 (a0 (bV a))]]:=⟨_,_,rfl,Nat.le_trans gr (by decide),by rw[kj AB];exact gr⟩
 have ey:dX.res [.agg [.int .i64 (b5 (bV a)),.int .i64 (a0 (bV a))]]= .flt (bG false (bV a)):=by simp only[dX,Int.toNat_natCast,kj AB]
 have qL:ed.pre [.agg [.int .i64 (b5 (bV a)),.int .i64 (a0 (bV a))]]:=⟨_,_,rfl,Nat.le_trans gr (by decide),by rw[kj AB];exact gr⟩
 have qM:ed.res [.agg [.int .i64 (b5 (bV a)),.int .i64 (a0 (bV a))]]= .flt (bG true (bV a)):=by simp only[ed,Int.toNat_natCast,kj AB]
 have ta:mf.pre [.int .i64 (ca a)]:=⟨_,rfl,by omega,by omega⟩
 have r3:mf.res [.int .i64 (ca a)]= .du [.bool (decide ((ca a:Int)=1∨(ca a:Int)=2∨(ca a:Int)=5∨(ca a:Int)=6)),.bool (decide (2≤(ca a:Int)∧(ca a:Int)≤5)),.bool (decide (4≤(ca a:Int)))]:=rfl
 have aeN:∀d,kc es [(b5 (bV a):Int),(a0 (bV a):Int)]=some d→d=r6 (bV a):=by
  intro d aD
  obtain⟨fe,Q',aN,aX⟩:=hm _ _ aD
  simp only[List.cons.injEq,and_true]at aN
  obtain⟨cc,cN⟩:=aN
  rw[aX,←cc,←cN,Int.toNat_natCast,kj AB]
 unfold k2 iW yr
 unfold vP at ic
 unfold r6 at*
 generalize bG false (bV a)=u at*
 generalize bG true (bV a)=v at*
 generalize (b5 (bV a):Int)=k at*
 generalize (a0 (bV a):Int)=q at*
 generalize ca a=e at*
 obtain⟨es',o6⟩:∃es',es'=(match kc es [k,q]with|some _=>es|none=>qW es [k,q] (.agg [.flt u,.flt v])):=⟨_,rfl⟩
 rw[←o6]
 clear hm AB gr b4 aO cw
 unfold l7 acg ach
 refine bC (fun s=>s.af 1= .mp 1000000∧s.af 2= .box 2 0∧s.aA 2=some ⟨false,false,.cells [.d (.int .i64 K),.d (.int .i64 Q)]⟩∧s.af 4= .box 4 0∧s.aA 4=some ⟨false,false,.cells [.d (.flt 0),.d (.flt 0)]⟩∧s.aA 1000000=some ⟨false,true,.map 2 es⟩) ?_ ?_
 ·simp (maxSteps:=9^9) only[↓al,ak,simprocAttr,dy,bF]
 rintro s ⟨h1,h2,aW,aK,a9,ow⟩
 refine bC (fun s=>s.af 1= .mp 1000000∧s.af 5= .box 5 0∧s.aA 5=some ⟨false,false,.cells [.d (.int .i64 e),.d (.int .i64 k),.d (.int .i64 q)]⟩∧s.af 4= .box 4 0∧s.aA 4=some ⟨false,false,.cells [.d (.flt 0),.d (.flt 0)]⟩∧s.aA 1000000=some ⟨false,true,.map 2 es⟩) ?_ ?_
 ·simp (maxSteps:=9^9) only[↓al,ak,simprocAttr,dy,bF,h1,h2,aW,aK,a9,ow,T1,iA,ic]
 clear h1 h2 aW aK a9 ow
 rintro s ⟨h1,aG,bq,aK,a9,ow⟩
 obtain⟨met,ml⟩:∃met,met=(kc es [k,q]).isSome:=⟨_,rfl⟩
 refine bC (fun s=>s.af 1= .mp 1000000∧s.af 5= .box 5 0∧s.aA 5=some ⟨false,false,.cells [.d (.int .i64 e),.d (.int .i64 k),.d (.int .i64 q)]⟩∧s.af 4= .box 4 0∧s.aA 4=some ⟨false,false,.cells [.d (.flt 0),.d (.flt 0)]⟩∧s.aA 1000000=some ⟨false,true,.map 2 es⟩∧s.af 7= .d (.bool met)∧s.af 6= .box 6 0∧s.aA 6=some ⟨false,false,.cells (if met=true then [.d (.flt u),.d (.flt v)]else [.d (.flt 0),.d (.flt 0)])⟩) ?_ ?_
 ·cases bb:kc es [k,q]with
  |some d=>
   have aD:=aeN d bb
   subst aD
   rw[bb]at ml
   have ml:met=true:=ml
   subst ml
   simp (maxSteps:=9^9) only[↓al,ak,simprocAttr,dy,bF,h1,aG,bq,aK,a9,ow,ag.key,ag.pair,bb,Option.map_some]
  |none=>
   rw[bb]at ml
   have ml:met=false:=ml
   subst ml
   simp (maxSteps:=9^9) only[↓al,ak,simprocAttr,dy,bF,h1,aG,bq,aK,a9,ow,ag.key,ag.pair,bb,Option.map_some]
 clear h1 aG bq aK a9 ow
 rintro s ⟨h1,aG,bq,aK,a9,ow,aS,aM,aY⟩
 refine bC (fun s=>s.af 5= .box 5 0∧s.aA 5=some ⟨false,false,.cells [.d (.int .i64 e),.d (.int .i64 k),.d (.int .i64 q)]⟩∧s.af 4= .box 4 0∧s.aA 4=some ⟨false,false,.cells [.d (.flt 0),.d (.flt 0)]⟩∧s.aA 1000000=some ⟨false,true,.map 2 es'⟩∧s.af 6= .box 6 0∧s.aA 6=some ⟨false,false,.cells [.d (.flt u),.d (.flt v)]⟩) ?_ ?_
 ·cases bb:kc es [k,q]with
  |some d=>
   rw[bb]at ml o6
   have ml:met=true:=ml
   subst ml
   subst o6
   rw[if_pos rfl]at aY
   simp (maxSteps:=9^9) only[↓al,ak,simprocAttr,dy,bF,h1,aG,bq,aK,a9,ow,aS,aM,aY,Bool.not_true]
  |none=>
   rw[bb]at ml o6
   have ml:met=false:=ml
   subst ml
   subst o6
   rw[if_neg (by decide)]at aY
   simp (maxSteps:=9^9) only[↓al,ak,simprocAttr,dy,bF,h1,aG,bq,aK,a9,ow,aS,aM,aY,ag.key,ag.pair,Option.map_some,pk,fp,ey,pn,qL,qM,Bool.not_false]
 clear h1 aG bq aK a9 ow aS aM aY fp ey qL qM aeN o6 ml
 rintro s ⟨aG,bq,aK,a9,ow,aM,aY⟩
 refine bC (fun s=>s.af 8= .d (.bool (decide ((e:Int)=1∨(e:Int)=2∨(e:Int)=5∨(e:Int)=6)))∧s.af 9= .d (.bool (decide (2≤(e:Int)∧(e:Int)≤5)))∧s.af 10= .d (.bool (decide (4≤(e:Int))))∧s.af 4= .box 4 0∧s.aA 4=some ⟨false,false,.cells [.d (.flt 0),.d (.flt 0)]⟩∧s.aA 1000000=some ⟨false,true,.map 2 es'⟩∧s.af 6= .box 6 0∧s.aA 6=some ⟨false,false,.cells [.d (.flt u),.d (.flt v)]⟩) ?_ ?_
 ·generalize decide ((e:Int)=1∨(e:Int)=2∨(e:Int)=5∨(e:Int)=6)=gT at*
  generalize decide (2≤(e:Int)∧(e:Int)≤5)=kz at*
  generalize decide (4≤(e:Int))=WG at*
  simp (maxSteps:=9^9) only[↓al,ak,simprocAttr,dy,bF,aG,bq,aK,a9,ow,aM,aY,T2,ta,r3]
 clear aG bq aK a9 ow aM aY ta r3
 have bR:(e=1∨e=2∨e=5∨e=6)=((e:Int)=1∨(e:Int)=2∨(e:Int)=5∨(e:Int)=6):=propext (by omega)
 have bS:(2≤e∧e≤5)=(2≤(e:Int)∧(e:Int)≤5):=propext (by omega)
 have hj:(4≤e)=(4≤(e:Int)):=propext (by omega)
 simp only[bR,bS,hj]
 rintro s ⟨bn,bH,bI,aK,a9,ow,aM,aY⟩
 by_cases bh:((e:Int)=1∨(e:Int)=2∨(e:Int)=5∨(e:Int)=6)<;>by_cases bB:(2≤(e:Int)∧(e:Int)≤5)<;>by_cases c2:(4≤(e:Int))<;>
  simp only[bh,bB,c2,decide_true,decide_false]at bn bH bI<;>
  simp only[bh,bB,c2,if_true,if_false]<;>
  simp (maxSteps:=9^9) only[↓al,ak,simprocAttr,dy,bF,bn,bH,bI,aK,a9,ow,aM,aY,Nat.reduceMul,Int.toNat_zero,Int.toNat_one,Nat.zero_mul,Nat.one_mul]<;>
  (repeat' apply And.intro)<;>decide
end RV.Dr
namespace RV.Dr
open Go RV RR
set_option linter.unusedSimpArgs false
set_option linter.unusedVariables false
set_option maxRecDepth 100000
set_option maxHeartbeats 4000000
theorem jd {K:Int} {Q:Nat} (h:Q≤14):a0 (an K Q)≤14:=Nat.le_trans (CU K (by omega)) h
def kX:gu where
 pre:=fun a4 cs=>∃(K:Int) (Q:Nat) (es:List (List Int×D)),a4=[.d (.int .i64 K),.box bF 0,.box (bF+1) 0]∧cs=[.cells [.d (.int .i64 Q)],.cells [.mp (bF+2)],.map 2 es]∧Bm es∧Q≤14
 res:=fun a4 cs=>match a4,cs with
  |[.d (.int _ K),_,_],[.cells [.d (.int _ Q)],_,_]=>k2 (an K Q.toNat)
  |_,_=> .nilp
 out:=fun a4 cs=>match a4,cs with
  |[.d (.int _ K),_,_],[.cells [.d (.int _ Q)],x,.map 2 es]=>[.cells [.d (.int .i64 Q)],x,.map 2 (yr es (an K Q.toNat))]
  |_,_=>[]
theorem Hw (Γ:Env) (atS:Γ.mt 100=some kP) (a4:List ag) (cs:List BC) (h:kX.pre a4 cs):l7 Γ afO afP a4 cs fun d cs'=>d=kX.res a4 cs∧cs'=kX.out a4 cs:=by
 obtain⟨K,Q,es,rfl,rfl,hm,cw⟩:=h
 have bO:kX.res [.d (.int .i64 K),.box bF 0,.box (bF+1) 0] [.cells [.d (.int .i64 Q)],.cells [.mp (bF+2)],.map 2 es]=k2 (an K Q):=by simp only[kX,Int.toNat_natCast]
 have fZ:kX.out [.d (.int .i64 K),.box bF 0,.box (bF+1) 0] [.cells [.d (.int .i64 Q)],.cells [.mp (bF+2)],.map 2 es]=[.cells [.d (.int .i64 Q)],.cells [.mp (bF+2)],.map 2 (yr es (an K Q))]:=by simp only[kX,Int.toNat_natCast]
 rw[bO,fZ]
 have qJ:kP.pre [.agg [.d (.int .i64 K),.d (.int .i64 Q)],.mp 1000000] [.map 2 es]:=⟨K,Q,es,rfl,rfl,hm,by omega,jd cw⟩
 have pA:kP.res [.agg [.d (.int .i64 K),.d (.int .i64 Q)],.mp 1000000] [.map 2 es]=k2 (an K Q):=by simp only[kP,Int.toNat_natCast]
 have WK:kP.out [.agg [.d (.int .i64 K),.d (.int .i64 Q)],.mp 1000000] [.map 2 es]=[.map 2 (yr es (an K Q))]:=by simp only[kP,Int.toNat_natCast]
 unfold k2 at*
 generalize yr es (an K Q)=es' at*
 generalize (iW (an K Q)).1=u at*
 generalize (iW (an K Q)).2=v at*
 simp (maxSteps:=9^9) only[↓al,ak,simprocAttr,dy,bF,afO,afP,atS,qJ,pA,WK]
def e6 (ps:List (Nat×Nat)):List (List D):=ps.map fun p=>[.flt p.1,.flt p.2]
def oS (es:List (List Int×D)) (q:Nat):Nat→List (List Int×D)
 |0=>es
 |k+1=>yr (oS es q k) (an (k:Int) q)
theorem YN {es:List (List Int×D)} (h:Bm es) (q:Nat):∀n,Bm (oS es q n)
 |0=>h
 |k+1=>amv (YN h q k) _
def dw (q n:Nat):List (Nat×Nat):=(List.range n).map fun k=>iW (an ((k:Nat):Int) q)
def kY:gu where
 pre:=fun a4 cs=>∃(n q:Nat) (es:List (List Int×D)),a4=[.d (.int .i64 n),.dk 99 [] [.box bF 0,.box (bF+1) 0]]∧cs=[.cells [.d (.int .i64 q)],.cells [.mp (bF+2)],.map 2 es]∧Bm es∧q≤14∧n≤1000
 res:=fun a4 cs=>match a4,cs with
  |[.d (.int _ n),_],[.cells [.d (.int _ q)],_,_]=> .recs 2 (e6 (dw q.toNat n.toNat))
  |_,_=> .nilp
 out:=fun a4 cs=>match a4,cs with
  |[.d (.int _ n),_],[.cells [.d (.int _ q)],x,.map 2 es]=>[.cells [.d (.int .i64 q)],x,.map 2 (oS es q.toNat n.toNat)]
  |_,_=>[]
theorem Hx (Γ:Env) (awL:Γ.mt 99=some kX) (a4:List ag) (cs:List BC) (h:kY.pre a4 cs):l7 Γ agY agZ a4 cs fun d cs'=>d=kY.res a4 cs∧cs'=kY.out a4 cs:=by
 obtain⟨n,q,es,rfl,rfl,hm,aO,aJ⟩:=h
 have bO:kY.res [.d (.int .i64 n),.dk 99 [] [.box bF 0,.box (bF+1) 0]] [.cells [.d (.int .i64 q)],.cells [.mp (bF+2)],.map 2 es]= .recs 2 (e6 (dw q n)):=by simp only[kY,Int.toNat_natCast]
 have fZ:kY.out [.d (.int .i64 n),.dk 99 [] [.box bF 0,.box (bF+1) 0]] [.cells [.d (.int .i64 q)],.cells [.mp (bF+2)],.map 2 es]=[.cells [.d (.int .i64 q)],.cells [.mp (bF+2)],.map 2 (oS es q n)]:=by simp only[kY,Int.toNat_natCast]
 rw[bO,fZ]
 unfold l7 agY agZ
 refine bC (fun s=>s.af 0= .d (.int .i64 n)∧s.af 1= .dk 99 [] [.box 1000000 0,.box 1000001 0]∧s.aA 1000000=some ⟨false,true,.cells [.d (.int .i64 q)]⟩∧s.aA 1000001=some ⟨false,true,.cells [.mp 1000002]⟩∧s.aA 1000002=some ⟨false,true,.map 2 es⟩) ?_ ?_
 ·simp (maxSteps:=9^9) only[↓al,ak,simprocAttr,dy,bF]
 rintro s ⟨h0,h1,cK,bM,aW⟩
 refine bC (fun s=>s.af 5= .own 8 0 n∧s.aA 8=some ⟨false,false,.recs 2 (List.replicate n [.flt 0,.flt 0])⟩∧s.af 1= .dk 99 [] [.box 1000000 0,.box 1000001 0]∧s.aA 1000000=some ⟨false,true,.cells [.d (.int .i64 q)]⟩∧s.aA 1000001=some ⟨false,true,.cells [.mp 1000002]⟩∧s.aA 1000002=some ⟨false,true,.map 2 es⟩) ?_ ?_
 ·simp (maxSteps:=9^9) only[↓al,ak,simprocAttr,dy,bF,h0,h1,cK,bM,aW,Int.toNat_natCast]
  exact⟨by omega,by simp only[b1];omega⟩
 clear h0 h1 cK bM aW
 rintro s ⟨aG,bZ,h1,cK,bM,aW⟩
 refine cB (fun s=>s.af 5= .own 8 0 n∧s.aA 8=some ⟨false,false,.recs 2 (e6 (dw q n))⟩∧s.aA 1000000=some ⟨false,true,.cells [.d (.int .i64 q)]⟩∧s.aA 1000001=some ⟨false,true,.cells [.mp 1000002]⟩∧s.aA 1000002=some ⟨false,true,.map 2 (oS es q n)⟩) ?_ ?_
 rotate_left
 ·clear aG bZ h1 cK bM aW
  rintro s ⟨aG,bZ,cK,bM,aW⟩
  have aH:(e6 (dw q n)).length=n:=by unfold e6 dw;rw[List.length_map,List.length_map,List.length_range]
  generalize e6 (dw q n)=R at*
  simp (maxSteps:=9^9) only[↓al,ak,simprocAttr,dy,bF,aG,bZ,cK,bM,aW,aH]
  try rw[←aH,List.take_length]
 refine bC (fun s=>s.af 5= .own 8 0 n∧s.aA 8=some ⟨false,false,.recs 2 (List.replicate n [.flt 0,.flt 0])⟩∧s.af 1= .dk 99 [] [.box 1000000 0,.box 1000001 0]∧s.af 10= .d (.int .i64 n)∧s.af 11= .d (.int .i64 0)∧s.aA 1000000=some ⟨false,true,.cells [.d (.int .i64 q)]⟩∧s.aA 1000001=some ⟨false,true,.cells [.mp 1000002]⟩∧s.aA 1000002=some ⟨false,true,.map 2 es⟩) ?_ ?_
 ·simp (maxSteps:=9^9) only[↓al,ak,simprocAttr,dy,bF,aG,bZ,h1,cK,bM,aW,List.length_replicate]
  try trivial
 clear aG bZ h1 cK bM aW
 rintro s ⟨aG,bZ,h1,bI,cv,cK,bM,aW⟩
 show cb Γ (.block 0 (.loop _)) _ _
 simp only[ka]
 refine eV (fun s=>∃i:Nat,i≤n∧s.af 5= .own 8 0 n∧s.aA 8=some ⟨false,false,.recs 2 (e6 (dw q i)++List.replicate (n - i) [.flt 0,.flt 0])⟩∧s.af 1= .dk 99 [] [.box 1000000 0,.box 1000001 0]∧s.af 10= .d (.int .i64 n)∧s.af 11= .d (.int .i64 i)∧s.aA 1000000=some ⟨false,true,.cells [.d (.int .i64 q)]⟩∧s.aA 1000001=some ⟨false,true,.cells [.mp 1000002]⟩∧s.aA 1000002=some ⟨false,true,.map 2 (oS es q i)⟩)
  (fun s=>match s.af 11 with| .d (.int _ i)=>n - i.toNat|_=>0) ⟨0,by omega,aG,bZ,h1,bI,cv,cK,bM,aW⟩ ?_
 clear aG bZ h1 bI cv cK bM aW
 rintro s ⟨i,hi,aG,bZ,h1,bI,cv,cK,bM,aW⟩
 have hlen:(e6 (dw q i)).length=i:=by unfold e6 dw;rw[List.length_map,List.length_map,List.length_range]
 by_cases c:(i:Int)<(n:Int)
 ·obtain⟨m,rfl⟩:∃m,n=i+1+m:=⟨n - i - 1,by omega⟩
  have qJ:kX.pre [.d (.int .i64 i),.box 1000000 0,.box 1000001 0] [.cells [.d (.int .i64 q)],.cells [.mp 1000002],.map 2 (oS es q i)]:=⟨i,q,oS es q i,rfl,rfl,YN hm q i,aO⟩
  have pA:kX.res [.d (.int .i64 i),.box 1000000 0,.box 1000001 0] [.cells [.d (.int .i64 q)],.cells [.mp 1000002],.map 2 (oS es q i)]=k2 (an i q):=by simp only[kX,Int.toNat_natCast]
  have WK:kX.out [.d (.int .i64 i),.box 1000000 0,.box 1000001 0] [.cells [.d (.int .i64 q)],.cells [.mp 1000002],.map 2 (oS es q i)]=[.cells [.d (.int .i64 q)],.cells [.mp 1000002],.map 2 (oS es q (i+1))]:=by simp only[kX,Int.toNat_natCast,oS]
  have vk:(e6 (dw q i)++List.replicate (i+1+m - i) [D.flt 0,D.flt 0]).set i [.flt (iW (an i q)).1,.flt (iW (an i q)).2]=e6 (dw q (i+1))++List.replicate (i+1+m - (i+1)) [D.flt 0,D.flt 0]:=by
   rw[List.set_append_right _ _ (by omega),hlen,Nat.sub_self,show i+1+m - i=(i+1+m - (i+1))+1 by omega,List.replicate_succ,List.set_cons_zero]
   unfold e6 dw
   rw[List.range_succ,List.map_append,List.map_append,List.append_assoc]
   rfl
  have aH:(e6 (dw q i)++List.replicate (i+1+m - i) [D.flt 0,D.flt 0]).length=i+1+m:=by rw[List.length_append,hlen,List.length_replicate];omega
  have eC:(e6 (dw q i)++List.replicate (i+1+m - i) [D.flt 0,D.flt 0]).getD i []=[D.flt 0,D.flt 0]:=by
   rw[List.getD_eq_getElem?_getD,List.getElem?_append_right (by omega),hlen,Nat.sub_self,show i+1+m - i=m+1 by omega]
   rfl
  unfold k2 at pA
  generalize (iW (an i q)).1=u at*
  generalize (iW (an i q)).2=v at*
  generalize oS es q i=aN at*
  generalize Dy:oS es q (i+1)=aX at*
  generalize e6 (dw q i)++List.replicate (i+1+m - i) [D.flt 0,D.flt 0]=R at*
  generalize Hy:e6 (dw q (i+1))++List.replicate (i+1+m - (i+1)) [D.flt 0,D.flt 0]=zo at*
  have dr:(0:Int)≤(i:Int):=by omega
  have ci:i<i+1+m:=by omega
  simp (maxSteps:=9^9) only[↓al,ak,simprocAttr,dy,bF,aG,bZ,h1,bI,cv,cK,bM,aW,c,dr,ci,awL,qJ,pA,WK,aH,eC,vk,List.drop_succ_cons,List.drop_zero,Int.toNat_natCast,Nat.zero_add,Nat.mul_one]
  exact⟨by simp only[aI];omega,⟨i+1,by omega,by rw[Hy],by omega,rfl,by rw[Dy]⟩,by omega⟩
 ·obtain rfl:i=n:=by omega
  rw[Nat.sub_self,List.replicate_zero,List.append_nil]at bZ
  simp (maxSteps:=9^9) only[↓al,ak,simprocAttr,dy,bF,aG,bZ,h1,bI,cv,cK,bM,aW,c]
theorem NN {ps:List (Nat×Nat)} {k:Nat} (h:k<ps.length):(e6 ps).getD k []=[.flt (ps.getD k (0,0)).1,.flt (ps.getD k (0,0)).2]∧(e6 ps).length=ps.length:=by
 unfold e6
 rw[List.getD_eq_getElem?_getD,List.getElem?_map,List.getElem?_eq_getElem h,List.getD_eq_getElem?_getD,List.getElem?_eq_getElem h,List.length_map]
 exact⟨rfl,rfl⟩
def ui:br where
 pre:=fun ds=>∃(k:Nat) (ps:List (Nat×Nat)),ds=[.int .i64 k,.ptr [.recs 2 (e6 ps)]]∧k<ps.length
 res:=fun ds=>match ds with
  |[.int _ k,.ptr [.recs _ R]]=>(R.getD k.toNat []).getD 0 .nilp
  |_=> .nilp
theorem aeO {k:Nat} {ps:List (Nat×Nat)} (ad:k<ps.length):ui.res [.int .i64 k,.ptr [.recs 2 (e6 ps)]]= .flt (ps.getD k (0,0)).1:=by
 simp only[ui,Int.toNat_natCast,(NN ad).1];rfl
theorem GD (Γ:Env) (ds:List D) (h:ui.pre ds):bK Γ adv adw ds fun d=>d=ui.res ds:=by
 obtain⟨k,ps,rfl,ad⟩:=h
 obtain⟨aN,aX⟩:=NN ad
 rw[aeO ad]
 generalize (ps.getD k (0,0)).1=u at*
 generalize (ps.getD k (0,0)).2=v at*
 generalize e6 ps=R at*
 have cE:k<R.length:=by omega
 have vI:(k:Int)<(R.length:Int):=by omega
 simp (maxSteps:=2000000) only[↓al,ak,↓reduceIte,reduceCtorEq,Nat.reduceEqDiff,Nat.reduceLeDiff,Nat.reduceSub,Nat.reduceAdd,Int.reduceToNat,Nat.reducePow,Int.reducePow,Int.reduceLE,Int.reduceLT,IntKind.bits,adv,adw,cE,vI,aN,Int.toNat_natCast,Nat.zero_add,Nat.mul_one]
 exact⟨by omega,by decide⟩
def uj:br where
 pre:=fun ds=>∃(k:Nat) (ps:List (Nat×Nat)),ds=[.int .i64 k,.ptr [.recs 2 (e6 ps)]]∧k<ps.length
 res:=fun ds=>match ds with
  |[.int _ k,.ptr [.recs _ R]]=>(R.getD k.toNat []).getD 1 .nilp
  |_=> .nilp
theorem aeP {k:Nat} {ps:List (Nat×Nat)} (ad:k<ps.length):uj.res [.int .i64 k,.ptr [.recs 2 (e6 ps)]]= .flt (ps.getD k (0,0)).2:=by
 simp only[uj,Int.toNat_natCast,(NN ad).1];rfl
theorem GF (Γ:Env) (ds:List D) (h:uj.pre ds):bK Γ abQ abR ds fun d=>d=uj.res ds:=by
 obtain⟨k,ps,rfl,ad⟩:=h
 obtain⟨aN,aX⟩:=NN ad
 rw[aeP ad]
 generalize (ps.getD k (0,0)).1=u at*
 generalize (ps.getD k (0,0)).2=v at*
 generalize e6 ps=R at*
 have cE:k<R.length:=by omega
 have vI:(k:Int)<(R.length:Int):=by omega
 simp (maxSteps:=2000000) only[↓al,ak,↓reduceIte,reduceCtorEq,Nat.reduceEqDiff,Nat.reduceLeDiff,Nat.reduceSub,Nat.reduceAdd,Int.reduceToNat,Nat.reducePow,Int.reducePow,Int.reduceLE,Int.reduceLT,IntKind.bits,abQ,abR,cE,vI,aN,Int.toNat_natCast,Nat.zero_add,Nat.mul_one]
 exact⟨by omega,by decide⟩
def eb (b:Bool) (p:Nat×Nat):Nat:=if b=true then p.2 else p.1
def Aj (b:Bool):Nat:=if b=true then 103 else 102
def aeQ (b:Bool) (r:List D):Nat:=match r with
 |[.flt u,.flt v]=>if b=true then v else u
 |_=>0
def mm:br where
 pre:=fun ds=>∃(n:Nat) (ps:List (Nat×Nat)) (b:Bool),ds=[.int .i64 n,.fn (Aj b) [] [.ptr [.recs 2 (e6 ps)]]]∧ps.length=n∧n≤1000
 res:=fun ds=>match ds with
  |[_,.fn f _ [.ptr [.recs _ R]]]=> .flts (R.map (aeQ (decide (f=103))))
  |_=> .nilp
theorem RI (b:Bool) (ps:List (Nat×Nat)):(e6 ps).map (aeQ b)=ps.map (eb b):=by
 unfold e6
 rw[List.map_map]
 rfl
theorem GG (Γ:Env) (atT:Γ.has 102 ui) (atU:Γ.has 103 uj) (ds:List D) (h:mm.pre ds):bK Γ acO acP ds fun d=>d=mm.res ds:=by
 obtain⟨n,ps,b,rfl,aQ,aJ⟩:=h
 have bO:mm.res [.int .i64 n,.fn (Aj b) [] [.ptr [.recs 2 (e6 ps)]]]= .flts (ps.map (eb b)):=by
  have:decide (Aj b=103)=b:=by cases b<;>decide
  simp only[mm,this,RI]
 rw[bO,gx]
 unfold acO acP
 refine bC (fun s=>s.af 0= .d (.int .i64 n)∧s.af 1= .d (.fn (Aj b) [] [.ptr [.recs 2 (e6 ps)]])) ?_ ?_
 ·simp (maxSteps:=9^9) only[↓al,ak,simprocAttr]
 rintro s ⟨h0,h1⟩
 refine bC (fun s=>s.af 5= .own 8 0 n∧s.aA 8=some ⟨false,false,.flts (List.replicate n 0)⟩∧s.af 1= .d (.fn (Aj b) [] [.ptr [.recs 2 (e6 ps)]])) ?_ ?_
 ·simp (maxSteps:=9^9) only[↓al,ak,simprocAttr,h0,h1,Int.toNat_natCast]
  exact⟨by omega,by simp only[b1];omega⟩
 clear h0 h1
 rintro s ⟨aG,bZ,h1⟩
 refine cB (fun s=>s.af 5= .own 8 0 n∧s.aA 8=some ⟨false,false,.flts (ps.map (eb b))⟩) ?_ ?_
 rotate_left
 ·clear aG bZ h1
  rintro s ⟨aG,bZ⟩
  have aH:(ps.map (eb b)).length=n:=by rw[List.length_map,aQ]
  generalize ps.map (eb b)=R at*
  simp (maxSteps:=9^9) only[↓al,ak,simprocAttr,aG,bZ,aH]
  try rw[←aH,List.take_length]
 refine bC (fun s=>s.af 5= .own 8 0 n∧s.aA 8=some ⟨false,false,.flts (List.replicate n 0)⟩∧s.af 1= .d (.fn (Aj b) [] [.ptr [.recs 2 (e6 ps)]])∧s.af 10= .d (.int .i64 n)∧s.af 11= .d (.int .i64 0)) ?_ ?_
 ·simp (maxSteps:=9^9) only[↓al,ak,simprocAttr,aG,bZ,h1,List.length_replicate]
  try trivial
 clear aG bZ h1
 rintro s ⟨aG,bZ,h1,bI,cv⟩
 show cb Γ (.block 0 (.loop _)) _ _
 simp only[ka]
 refine eV (fun s=>∃i:Nat,i≤n∧s.af 5= .own 8 0 n∧s.aA 8=some ⟨false,false,.flts ((ps.take i).map (eb b)++List.replicate (n - i) 0)⟩∧s.af 1= .d (.fn (Aj b) [] [.ptr [.recs 2 (e6 ps)]])∧s.af 10= .d (.int .i64 n)∧s.af 11= .d (.int .i64 i))
  (fun s=>match s.af 11 with| .d (.int _ i)=>n - i.toNat|_=>0) ⟨0,by omega,aG,bZ,h1,bI,cv⟩ ?_
 clear aG bZ h1 bI cv
 rintro s ⟨i,hi,aG,bZ,h1,bI,cv⟩
 have hlen:((ps.take i).map (eb b)).length=i:=by rw[List.length_map,List.length_take];omega
 by_cases c:(i:Int)<(n:Int)
 ·obtain⟨m,hm⟩:∃m,n=i+1+m:=⟨n - i - 1,by omega⟩
  have y0:i<ps.length:=by omega
  have cq:ui.pre [.int .i64 i,.ptr [.recs 2 (e6 ps)]]:=⟨i,ps,rfl,y0⟩
  have fK:uj.pre [.int .i64 i,.ptr [.recs 2 (e6 ps)]]:=⟨i,ps,rfl,y0⟩
  have bX:=aeO y0
  have eJ:=aeP y0
  have vk:((ps.take i).map (eb b)++List.replicate (n - i) 0).set i (eb b (ps.getD i (0,0)))=(ps.take (i+1)).map (eb b)++List.replicate (n - (i+1)) 0:=by
   rw[List.set_append_right _ _ (by omega),hlen,Nat.sub_self,show n - i=(n - (i+1))+1 by omega,List.replicate_succ,List.set_cons_zero,List.take_succ_eq_append_getElem y0,List.map_append,List.append_assoc]
   rw[List.getD_eq_getElem?_getD,List.getElem?_eq_getElem y0]
   rfl
  have aH:((ps.take i).map (eb b)++List.replicate (n - i) 0).length=n:=by rw[List.length_append,hlen,List.length_replicate];omega
  generalize e6 ps=RR at*
  generalize Pb:ps.getD i (0,0)=pp at*
  generalize (ps.take i).map (eb b)++List.replicate (n - i) 0=R at*
  generalize Hy:(ps.take (i+1)).map (eb b)++List.replicate (n - (i+1)) 0=zo at*
  have dr:(0:Int)≤(i:Int):=by omega
  have ci:i<n:=by omega
  have cu:b=true∨b=false:=by cases b<;>simp
  rcases cu with rfl|rfl
  ·have hG:Aj true=103:=rfl
   have es:eb true pp=pp.2:=rfl
   rw[hG]at h1
   rw[es]at vk
   simp (maxSteps:=9^9) only[↓al,ak,simprocAttr,aG,bZ,h1,bI,cv,c,dr,ci,atU,fK,eJ,aH,vk,hG,Int.toNat_natCast,Nat.zero_add,Nat.mul_one]
   exact⟨by simp only[aI];omega,⟨i+1,by omega,by rw[Hy],by omega⟩,by omega⟩
  ·have hG:Aj false=102:=rfl
   have es:eb false pp=pp.1:=rfl
   rw[hG]at h1
   rw[es]at vk
   simp (maxSteps:=9^9) only[↓al,ak,simprocAttr,aG,bZ,h1,bI,cv,c,dr,ci,atT,cq,bX,aH,vk,hG,Int.toNat_natCast,Nat.zero_add,Nat.mul_one]
   exact⟨by simp only[aI];omega,⟨i+1,by omega,by rw[Hy],by omega⟩,by omega⟩
 ·obtain rfl:i=n:=by omega
  rw[Nat.sub_self,List.replicate_zero,List.append_nil,List.take_of_length_le (by omega)]at bZ
  simp (maxSteps:=9^9) only[↓al,ak,simprocAttr,aG,bZ,h1,bI,cv,c]
def j3:br where
 pre:=fun ds=>∃q n:Nat,ds=[.int .i64 q,.int .i64 n]∧q≤14∧n≤1000
 res:=fun ds=>match ds with
  |[.int _ q,.int _ n]=> .agg [.flts ((dw q.toNat n.toNat).map (eb false)),.flts ((dw q.toNat n.toNat).map (eb true))]
  |_=> .nilp
theorem amw:Bm []:=fun ks d h=>by cases h
theorem Cb (Γ:Env) (awM:Γ.mt 98=some kY) (atV:Γ.has 101 mm) (ds:List D) (h:j3.pre ds):bK Γ agk agl ds fun d=>d=j3.res ds:=by
 obtain⟨q,n,rfl,aO,aJ⟩:=h
 have bO:j3.res [.int .i64 q,.int .i64 n]= .agg [.flts ((dw q n).map (eb false)),.flts ((dw q n).map (eb true))]:=by simp only[j3,Int.toNat_natCast]
 rw[bO]
 have aH:(dw q n).length=n:=by unfold dw;rw[List.length_map,List.length_range]
 have ta:kY.pre [.d (.int .i64 n),.dk 99 [] [.box 1000000 0,.box 1000001 0]] [.cells [.d (.int .i64 q)],.cells [.mp 1000002],.map 2 []]:=⟨n,q,[],rfl,rfl,amw,aO,aJ⟩
 have r3:kY.res [.d (.int .i64 n),.dk 99 [] [.box 1000000 0,.box 1000001 0]] [.cells [.d (.int .i64 q)],.cells [.mp 1000002],.map 2 []]= .recs 2 (e6 (dw q n)):=by simp only[kY,Int.toNat_natCast]
 have ayS:kY.out [.d (.int .i64 n),.dk 99 [] [.box 1000000 0,.box 1000001 0]] [.cells [.d (.int .i64 q)],.cells [.mp 1000002],.map 2 []]=[.cells [.d (.int .i64 q)],.cells [.mp 1000002],.map 2 (oS [] q n)]:=by simp only[kY,Int.toNat_natCast]
 have cq:mm.pre [.int .i64 n,.fn 102 [] [.ptr [.recs 2 (e6 (dw q n))]]]:=⟨n,dw q n,false,rfl,aH,aJ⟩
 have fK:mm.pre [.int .i64 n,.fn 103 [] [.ptr [.recs 2 (e6 (dw q n))]]]:=⟨n,dw q n,true,rfl,aH,aJ⟩
 have bX:mm.res [.int .i64 n,.fn 102 [] [.ptr [.recs 2 (e6 (dw q n))]]]= .flts ((dw q n).map (eb false)):=by
  have:decide (102=103)=false:=by decide
  simp only[mm,this,RI]
 have eJ:mm.res [.int .i64 n,.fn 103 [] [.ptr [.recs 2 (e6 (dw q n))]]]= .flts ((dw q n).map (eb true)):=by
  simp only[mm,decide_true,RI]
 generalize oS [] q n=es at*
 generalize (dw q n).map (eb false)=A at*
 generalize (dw q n).map (eb true)=B at*
 generalize e6 (dw q n)=R at*
 simp (maxSteps:=9^9) only[↓al,ak,simprocAttr,dy,bF,agk,agl,awM,ta,r3,ayS,atV,cq,bX,fK,eJ]
end RV.Dr
namespace RV.Dr
open Go RV RR
set_option linter.unusedSimpArgs false
set_option linter.unusedVariables false
set_option maxRecDepth 100000
set_option maxHeartbeats 4000000
def kn (xs aC:List Nat):Bool:=decide (xs.length=aC.length) && (List.range xs.length).all fun i=>vZ (xs.getD i 0) (aC.getD i 0)
theorem apS {xs aC:List Nat} {i:Nat} (h:i<xs.length) (e:vZ (xs.getD i 0) (aC.getD i 0)=false):kn xs aC=false:=by
 unfold kn
 have:((List.range xs.length).all fun i=>vZ (xs.getD i 0) (aC.getD i 0))=false:=by
  rw[Bool.eq_false_iff]
  intro h2
  rw[List.all_eq_true]at h2
  have:=h2 i (List.mem_range.2 h)
  rw[e]at this;cases this
 rw[this,Bool.and_false]
theorem M6 {xs aC:List Nat} (aH:xs.length=aC.length) (h:∀i,i<xs.length→vZ (xs.getD i 0) (aC.getD i 0)=true):kn xs aC=true:=by
 unfold kn
 rw[Bool.and_eq_true,decide_eq_true_eq,List.all_eq_true]
 exact⟨aH,fun i hi=>h i (List.mem_range.1 hi)⟩
def rX:br where
 pre:=fun ds=>∃xs aC:List Nat,ds=[.flts xs,.flts aC]∧xs.length≤100000∧aC.length≤100000
 res:=fun ds=>match ds with
  |[.flts xs,.flts aC]=> .bool (kn xs aC)
  |_=> .nilp
theorem Hz (Γ:Env) (aeR:Γ.has 124 uh) (ds:List D) (h:rX.pre ds):bK Γ agL agM ds fun d=>d=rX.res ds:=by
 obtain⟨xs,aC,rfl,c7,gW⟩:=h
 have bO:rX.res [.flts xs,.flts aC]= .bool (kn xs aC):=rfl
 rw[bO,gx]
 unfold agL agM
 by_cases aH:xs.length=aC.length
 ·have aw:((xs.length:Int) !=(aC.length:Int))=false:=by rw[aH];simp
  refine bC (fun s=>s.af 0= .d (.flts xs)∧s.af 1= .d (.flts aC)) ?_ ?_
  ·simp (maxSteps:=9^9) only[↓al,ak,simprocAttr]
  rintro s ⟨h0,h1⟩
  refine bC (fun s=>s.af 0= .d (.flts xs)∧s.af 1= .d (.flts aC)) ?_ ?_
  ·simp (maxSteps:=9^9) only[↓al,ak,simprocAttr,h0,h1,aw]
  clear h0 h1
  rintro s ⟨h0,h1⟩
  refine cB (fun s=>kn xs aC=true) ?_ ?_
  rotate_left
  ·rintro s ar
   simp (maxSteps:=9^9) only[↓al,ak,simprocAttr,ar]
  refine bC (fun s=>s.af 0= .d (.flts xs)∧s.af 1= .d (.flts aC)∧s.af 5= .d (.int .i64 0)) ?_ ?_
  ·simp (maxSteps:=9^9) only[↓al,ak,simprocAttr,h0,h1]
  clear h0 h1
  rintro s ⟨h0,h1,aG⟩
  show cb Γ (.block 0 (.loop _)) _ _
  simp only[ka]
  refine eV (fun s=>∃i:Nat,i≤xs.length∧(∀j,j<i→vZ (xs.getD j 0) (aC.getD j 0)=true)∧s.af 0= .d (.flts xs)∧s.af 1= .d (.flts aC)∧s.af 5= .d (.int .i64 i))
   (fun s=>match s.af 5 with| .d (.int _ i)=>xs.length - i.toNat|_=>0) ⟨0,by omega,fun j aF=>absurd aF (Nat.not_lt_zero _),h0,h1,aG⟩ ?_
  clear h0 h1 aG
  rintro s ⟨i,hi,ad,h0,h1,aG⟩
  by_cases c:(i:Int)<(xs.length:Int)
  ·have HK:i<xs.length:=by omega
   have ajv:i<aC.length:=by omega
   have aia:(i:Int)<(aC.length:Int):=by omega
   have dr:(0:Int)≤(i:Int):=by omega
   have p1:uh.pre [.flt (xs.getD i 0),.flt (aC.getD i 0)]:=⟨_,_,rfl⟩
   have bA:uh.res [.flt (xs.getD i 0),.flt (aC.getD i 0)]= .bool (vZ (xs.getD i 0) (aC.getD i 0)):=rfl
   cases hf:vZ (xs.getD i 0) (aC.getD i 0)with
   |true=>
    rw[hf]at bA
    have cE:∀j,j<i+1→vZ (xs.getD j 0) (aC.getD j 0)=true:=fun j aF=>by
     by_cases e:j=i
     ·rw[e];exact hf
     ·exact ad j (by omega)
    simp (maxSteps:=9^9) only[↓al,ak,simprocAttr,h0,h1,aG,c,HK,ajv,aia,dr,Int.toNat_natCast,aeR,p1,bA,Bool.not_true]
    exact⟨by simp only[aI];omega,⟨i+1,by omega,cE,by omega⟩,by omega⟩
   |false=>
    rw[hf]at bA
    have aJ:=apS HK hf
    simp (maxSteps:=9^9) only[↓al,ak,simprocAttr,h0,h1,aG,c,HK,ajv,aia,dr,Int.toNat_natCast,aeR,p1,bA,aJ,Bool.not_false]
    try trivial
  ·obtain rfl:i=xs.length:=by omega
   have ar:=M6 aH ad
   simp (maxSteps:=9^9) only[↓al,ak,simprocAttr,h0,h1,aG,c,ar]
 ·have aw:((xs.length:Int) !=(aC.length:Int))=true:=by simp;omega
  have ar:kn xs aC=false:=by unfold kn;rw[decide_eq_false aH];rfl
  simp (maxSteps:=9^9) only[↓al,ak,simprocAttr,aw,ar]
def qv:br where
 pre:=fun ds=>∃a b c d:List Nat,ds=[.agg [.flts a,.flts b],.agg [.flts c,.flts d]]∧a.length≤100000∧b.length≤100000∧c.length≤100000∧d.length≤100000
 res:=fun ds=>match ds with
  |[.agg [.flts a,.flts b],.agg [.flts c,.flts d]]=> .bool (kn a c && kn b d)
  |_=> .nilp
theorem HA (Γ:Env) (aib:Γ.has 70 rX) (ds:List D) (h:qv.pre ds):bK Γ Vg Vh ds fun d=>d=qv.res ds:=by
 obtain⟨a,b,c,d,rfl,cI,dS,s5,qz⟩:=h
 have p1:rX.pre [.flts a,.flts c]:=⟨a,c,rfl,cI,s5⟩
 have cq:rX.pre [.flts b,.flts d]:=⟨b,d,rfl,dS,qz⟩
 have bA:rX.res [.flts a,.flts c]= .bool (kn a c):=rfl
 have bX:rX.res [.flts b,.flts d]= .bool (kn b d):=rfl
 have bO:qv.res [.agg [.flts a,.flts b],.agg [.flts c,.flts d]]= .bool (kn a c && kn b d):=rfl
 rw[bO]
 generalize kn a c=x at*
 generalize kn b d=y at*
 cases x with
 |true=>simp (maxSteps:=9^9) only[↓al,ak,simprocAttr,Vg,Vh,aib,p1,bA,cq,bX,Bool.true_and]
 |false=>simp (maxSteps:=9^9) only[↓al,ak,simprocAttr,Vg,Vh,aib,p1,bA,cq,bX,Bool.false_and]
end RV.Dr
namespace RV.Dr
open Go RV RR
set_option linter.unusedSimpArgs false
set_option linter.unusedVariables false
set_option maxRecDepth 100000
set_option maxHeartbeats 4000000
theorem X6 {w:Nat} (h:w<18446744073709551616):(w / 4503599627370496 % 2048=0→dm w=mk (w / 9223372036854775808==1) (w % 4503599627370496) (-1074))∧
 (w / 4503599627370496 % 2048≠0→w / 4503599627370496 % 2048≠2047→dm w=mk (w / 9223372036854775808==1) (w % 4503599627370496+4503599627370496) (((w / 4503599627370496 % 2048:Nat):Int) - 1075))∧
 (w / 4503599627370496 % 2048=2047→¬Fin w):=by
 have s1:w / 9223372036854775808 % 2=w / 9223372036854775808:=Nat.mod_eq_of_lt ((Nat.div_lt_iff_lt_mul (by decide)).2 h)
 have aN:w % 9223372036854775808 % 4503599627370496=w % 4503599627370496:=Nat.mod_mod_of_dvd _ ⟨2048,by decide⟩
 have aX:w % 9223372036854775808 / 4503599627370496=w / 4503599627370496 % 2048:=by
  rw[show 9223372036854775808=4503599627370496*2048 by decide,Nat.mod_mul_right_div_self]
 have aE:=Nat.div_add_mod (w % 9223372036854775808) 4503599627370496
 rw[aN,aX]at aE
 have ar:Ieee.double.read w=(let neg:=w / 9223372036854775808 % 2==1
  let Dd:=w % 9223372036854775808
  if Dd<4503599627370496 then .number neg Dd (-1074)
  else if Dd<9218868437227405312 then .number neg (4503599627370496+Dd % 4503599627370496) (-1074+(Dd / 4503599627370496 - 1:Nat))
  else if Dd=9218868437227405312 then .infinity neg
  else .nan neg (Dd - 9218868437227405312)):=by
  unfold Ieee.Format.read
  simp only[Nq,RE,S0,abx]
 rw[s1]at ar
 simp only[aN,aX]at ar
 have hm:=Nat.mod_lt w (show 4503599627370496>0 by decide)
 have azc:=Nat.mod_lt (w / 4503599627370496) (show 2048>0 by decide)
 unfold dm Fin
 generalize w % 9223372036854775808=g at*
 generalize w / 4503599627370496 % 2048=E at*
 generalize w % 4503599627370496=f at*
 generalize (w / 9223372036854775808==1)=s at*
 refine⟨fun h0=> ?_,fun h0 h1=> ?_,fun h0=> ?_⟩
 ·subst h0
  rw[Nat.mul_zero,Nat.zero_add]at aE
  rw[if_pos (by omega)]at ar
  rw[ar,aE]
 ·have a:4503599627370496*1≤4503599627370496*E:=Nat.mul_le_mul_left _ (by omega)
  have b:4503599627370496*E≤4503599627370496*2046:=Nat.mul_le_mul_left _ (by omega)
  have bR:¬g<4503599627370496:=by rw[←aE];exact Nat.not_lt.2 (Nat.le_trans (by simpa using a) (Nat.le_add_right _ _))
  have bS:g<9218868437227405312:=by rw[←aE];exact Nat.lt_of_lt_of_le (Nat.add_lt_add_of_le_of_lt b hm) (by decide)
  rw[if_neg bR,if_pos bS]at ar
  rw[ar]
  show mk s (4503599627370496+f) (-1074+((E - 1:Nat):Int))=_
  rw[Nat.add_comm,show (-1074+((E - 1:Nat):Int))=(E:Int) - 1075 by omega]
 ·subst h0
  have bR:¬g<4503599627370496:=by rw[←aE];exact Nat.not_lt.2 (Nat.le_trans (by decide) (Nat.le_add_right _ _))
  have bS:¬g<9218868437227405312:=by rw[←aE];exact Nat.not_lt.2 (Nat.le_trans (by decide) (Nat.le_add_right _ _))
  rw[if_neg bR,if_neg bS]at ar
  rintro⟨t,m,e,he⟩
  rw[ar]at he
  split at he<;>cases he
def ix:br where
 pre:=fun ds=>∃w:Nat,ds=[.flt w]∧Fin w∧w<18446744073709551616
 res:=fun ds=>match ds with
  |[.flt w]=> .du [aV (dm w),.bool true]
  |_=> .nilp
theorem PX (Γ:Env) (aeS:Γ.has 110 lk) (BB:Γ.has 109 fu) (ds:List D) (h:ix.pre ds):bK Γ Vk Vl ds fun d=>d=ix.res ds:=by
 obtain⟨w,rfl,fJ,hw⟩:=h
 have bO:ix.res [.flt w]= .du [aV (dm w),.bool true]:=rfl
 rw[bO]
 have lL:=Jj fJ
 have d1:((w:Nat):Int).fdiv 9223372036854775808=((w / 9223372036854775808:Nat):Int):=Int.fdiv_eq_ediv_of_nonneg _ (by decide)
 have d2:((w:Nat):Int).fdiv 4503599627370496=((w / 4503599627370496:Nat):Int):=Int.fdiv_eq_ediv_of_nonneg _ (by decide)
 have d3:iH .u64 ((w / 4503599627370496:Nat):Int) 2047=((w / 4503599627370496 % 2048:Nat):Int):=ZH (Nat.lt_of_le_of_lt (Nat.div_le_self _ _) hw)
 have d4:=YH hw
 obtain⟨bA,bX,eJ⟩:=X6 hw
 have aW:=Nat.mod_lt (w / 4503599627370496) (show 2048>0 by decide)
 have a5:=Nat.mod_lt w (show 4503599627370496>0 by decide)
 generalize dm w=x at*
 have ajw:(((w / 9223372036854775808:Nat):Int)==1)=(w / 9223372036854775808==1):=by
  rw[Bool.eq_iff_iff,beq_iff_eq,beq_iff_eq];omega
 generalize w / 9223372036854775808=A at*
 generalize w / 4503599627370496 % 2048=E at*
 generalize w / 4503599627370496=DT at*
 generalize w % 4503599627370496=f at*
 generalize (A==1)=s at*
 have i2:aI (E:Int):=by simp only[aI];omega
 have i3:aI (f:Int):=by simp only[aI];omega
 have r7:((E:Int)==2047)=false:=beq_false_of_ne (by intro e;exact eJ (by omega) fJ)
 have i4:aI ((f:Int)+4503599627370496):=by simp only[aI];omega
 have i5:aI ((E:Int) - 1075):=by simp only[aI];omega
 have ajx:∀m:Nat,m<9007199254740992→(au m).length≤3:=fun m hm=>x7 (Nat.lt_trans hm (by decide))
 by_cases lS:E=0
 ·have bA:=bA lS
  subst bA
  have c:((E:Int)==0)=true:=by rw[lS];rfl
  have qJ:lk.pre [.int .i64 f]:=⟨f,rfl,i3⟩
  have pA:lk.res [.int .i64 f]=aZ f:=by simp only[lk,Int.toNat_natCast]
  have s9:fu.pre [.bool s,aZ f,.int .i64 (-1074)]:=⟨s,f,-1074,rfl,Nat.le_trans (ajx f (by omega)) (by decide),by omega,by omega⟩
  have zl:fu.res [.bool s,aZ f,.int .i64 (-1074)]=aV (mk s f (-1074)):=by simp only[fu,aZ,bT]
  generalize mk s f (-1074)=y at*
  unfold aV aZ at*
  simp (maxSteps:=9^9) only[↓al,ak,simprocAttr,Vk,Vl,lL,d1,d2,d3,d4,ajw,i2,i3,r7,c,aeS,qJ,pA,BB,s9,zl]
 ·have bX:=bX lS (fun e=>eJ e fJ)
  subst bX
  have c:((E:Int)==0)=false:=beq_false_of_ne (by omega)
  have D0:(f:Int)+4503599627370496=((f+4503599627370496:Nat):Int):=by omega
  have qJ:lk.pre [.int .i64 ((f:Int)+4503599627370496)]:=⟨_,rfl,i4⟩
  have pA:lk.res [.int .i64 ((f:Int)+4503599627370496)]=aZ (f+4503599627370496):=by simp only[lk,D0,Int.toNat_natCast]
  have s9:fu.pre [.bool s,aZ (f+4503599627370496),.int .i64 ((E:Int) - 1075)]:=⟨s,f+4503599627370496,(E:Int) - 1075,rfl,Nat.le_trans (ajx _ (by omega)) (by decide),by omega,by omega⟩
  have zl:fu.res [.bool s,aZ (f+4503599627370496),.int .i64 ((E:Int) - 1075)]=aV (mk s (f+4503599627370496) ((E:Int) - 1075)):=by simp only[fu,aZ,bT]
  generalize mk s (f+4503599627370496) ((E:Int) - 1075)=y at*
  unfold aV aZ at*
  simp (maxSteps:=9^9) only[↓al,ak,simprocAttr,Vk,Vl,lL,d1,d2,d3,d4,ajw,i2,i3,r7,c,i4,i5,aeS,qJ,pA,BB,s9,zl]
def jE (w:Nat):Nat:=if cW w 0=true then 1 else if w<9223372036854775808 then w+1 else w - 1
def v3:br where
 pre:=fun ds=>∃w:Nat,ds=[.flt w]∧(w=0∨w=kF∨∃(s:Bool) (r:Nat),w=wd s r∧4503599627370497≤r∧r<9218868437227405311)
 res:=fun ds=>match ds with
  |[.flt w]=> .flt (jE w)
  |_=> .nilp
theorem VW (Γ:Env) (ds:List D) (h:v3.pre ds):bK Γ KO KP ds fun d=>d=v3.res ds:=by
 obtain⟨w,rfl,rfl|rfl|⟨s,r,rfl,h1,h2⟩⟩:=h
 ·have bO:v3.res [.flt 0]= .flt 1:=by show D.flt (jE 0)=_;congr 1
  have aN:cW 0 0=true:=by decide
  have aX:um 0 9218868437227405311=false:=by decide
  have cc:eL 1=1:=by decide
  rw[bO]
  simp (maxSteps:=9^9) only[↓al,ak,simprocAttr,KO,KP,aN,aX,cc,ET,Int.toNat_one,Bool.not_true]
 ·have bO:v3.res [.flt kF]= .flt 1:=by show D.flt (jE kF)=_;congr 1
  have b8:cW kF kF=true:=by decide
  have aN:cW kF 0=true:=by decide
  have aX:um kF 9218868437227405311=false:=by decide
  have cc:eL 1=1:=by decide
  rw[bO]
  simp (maxSteps:=9^9) only[↓al,ak,simprocAttr,KO,KP,b8,aN,aX,cc,ET,Int.toNat_one,Bool.not_true]
 ·have xQ:=gZ (s:=s) (r:=r) (by omega) (by omega)
  have WL:=gZ (s:=false) (r:=9218868437227405311) (by decide) (by decide)
  have e0:dI (wd false 9218868437227405311)=eI 9218868437227405311:=jS (s:=false) (by decide) (by decide)
  have v1:=jS (s:=s) (r:=r) (by omega) (by omega)
  have D1:=u0 r
  have pm:=u0 9218868437227405311
  have mono:=qT (r:=r) (s:=9218868437227405311) (by omega) (by omega)
  have b8:=tr xQ
  have aN:cW (wd s r) 0=false:=by
   rw[Bool.eq_false_iff];intro hf
   rw[IY xQ uU,yg,v1]at hf
   split at hf<;>grind
  have aX:um (wd s r) (wd false 9218868437227405311)=false:=by
   rw[Bool.eq_false_iff];intro hf
   rw[Ns xQ WL,v1,e0]at hf
   split at hf<;>grind
  have aX:um (wd s r) 9218868437227405311=false:=aX
  have lL:=Jj xQ
  have bO:v3.res [.flt (wd s r)]= .flt (if s=true then wd true (r - 1)else wd false (r+1)):=by
   show D.flt (jE (wd s r))=_
   unfold jE
   rw[aN]
   cases s
   ·have:wd false r<9223372036854775808:=by show r<_;omega
    rw[if_neg (by decide),if_pos this];rfl
   ·have:¬wd true r<9223372036854775808:=by show¬9223372036854775808+r<_;omega
    rw[if_neg (by decide),if_neg this]
    show D.flt (9223372036854775808+r - 1)=D.flt (9223372036854775808+(r - 1))
    congr 1;omega
  rw[bO]
  cases s with
  |false=>
   have cc:um (wd false r) 0=true:=by
    rw[Ns xQ uU,yg,v1];simp only[Bool.false_eq_true,if_false];exact D1
   have hw:IntKind.u64.wrap ((r:Int)+1)=((r+1:Nat):Int):=wrap64 (n:=r+1) (by omega)
   have ay:eL (r+1)=r+1:=AQ (gZ (s:=false) (r:=r+1) (by omega) (by omega))
   have Qg:wd false r=r:=rfl
   rw[Qg]at b8 aN aX cc lL⊢
   have awN:wd false (r+1)=r+1:=rfl
   rw[awN]
   simp (maxSteps:=9^9) only[↓al,ak,simprocAttr,KO,KP,b8,aN,aX,cc,lL,hw,ay,ET,Int.toNat_natCast,Bool.not_true,Bool.false_eq_true]
  |true=>
   have cc:um (wd true r) 0=false:=by
    rw[Bool.eq_false_iff];intro hf
    rw[Ns xQ uU,yg,v1]at hf;simp only[if_true]at hf;grind
   have hw:IntKind.u64.wrap (((wd true r:Nat):Int) - 1)=((wd true (r - 1):Nat):Int):=by
    rw[show ((wd true r:Nat):Int) - 1=((wd true (r - 1):Nat):Int)by unfold wd;simp only[if_true];omega]
    exact wrap64 (CW (by omega))
   have ay:eL (wd true (r - 1))=wd true (r - 1):=AQ (gZ (by omega) (by omega))
   generalize wd true (r - 1)=y at*
   generalize wd true r=z at*
   simp (maxSteps:=9^9) only[↓al,ak,simprocAttr,KO,KP,b8,aN,aX,cc,lL,hw,ay,ET,Int.toNat_natCast,Bool.not_true,Bool.false_eq_true]
end RV.Dr
namespace RV.Dr
open Go RV RR
set_option linter.unusedSimpArgs false
set_option linter.unusedVariables false
set_option maxRecDepth 100000
set_option maxHeartbeats 4000000
theorem Ba {b:Bool} {a:Nat} {I:bQ} (h:a<1152921504606846976) (aO:a0 a≤14) (eP:hC I (cF b a) 160):bG b a=cT I.lo:=by
 unfold bG;rw[Nt h aO (by omega) eP]
theorem aar {x:R} {V n z E:Nat} (h1:az V≤x*ax 256) (h2:x*ax 256≤az V+az E) (aJ:n≤256) (bh:z*2^(256 - n)<V) (bB:V+E<(z+1)*2^(256 - n)):hC ⟨mk false z (-n),mk false (z+1) (-n)⟩ x n:=by
 have es:ax 256=ax n*ax (256 - n:Nat):=by rw[←g7];congr 1;omega
 rw[es]at h1 h2
 have p:=c8 (-((256 - n:Nat):Int))
 have q:=oQ ((256 - n:Nat):Int)
 have pt:=c8 ((256 - n:Nat):Int)
 have bR:az z*ax (256 - n:Nat)<az V:=by
  rw[←iZ,←jP,l3];exact_mod_cast bh
 have bS:az V+az E<(az z+1)*ax (256 - n:Nat):=by
  have:az V+az E=az ((V+E:Nat):Int):=by rw[jm]
  rw[this,←iZ,←oN,←jm,←jP,l3];exact_mod_cast bB
 have d1:az z<x*ax n:=by
  refine Std.not_le.1 fun k=> ?_
  have:=b0 (show 0≤az z - x*ax n by grind) (show 0≤ax (256 - n:Nat)by grind)
  grind
 have d2:x*ax n<az z+1:=by
  refine Std.not_le.1 fun k=> ?_
  have:=b0 (show 0≤x*ax n - (az z+1)by grind) (show 0≤ax (256 - n:Nat)by grind)
  grind
 have s7:az ((z+1:Nat):Int)=az z+1:=by rw[jm,oN]
 refine⟨⟨oV ..,oV ..⟩,kg (Int.le_refl _),kg (Int.le_refl _),z,(z+1:Nat),Jr ..,Jr ..,by grind,d2,by grind,by grind⟩
theorem aic:bG false (an 1 3)=4604544271217802189:=by
 have e:cF false (an 1 3)=ay 0:=by
  rw[rW,T8,pZ (by omega),pow_one];rfl
 have h:=(DL 0 (by omega)).1
 have:=QL (n:=160) (z:=(gq 0).1 / 2^96) h.1 h.2 (by omega) (by decide+kernel) (by decide+kernel)
 rw[←e]at this
 rw[Ba (ft _ _) (jd (by omega)) this]
 decide+kernel
theorem atW:bG true (an 1 3)=4604544271217802189:=by
 have e:cF true (an 1 3)=aE 0:=by
  rw[qu,T8,pZ (by omega),pow_one];rfl
 have h:=(DL 0 (by omega)).2
 have:=aar (n:=160) (E:=4096) (z:=(gq 0).2 / 2^96) h.1 h.2 (by omega) (by decide+kernel) (by decide+kernel)
 rw[←e]at this
 rw[Ba (ft _ _) (jd (by omega)) this]
 decide+kernel
theorem awO:bG true (an 3 2)=13830554455654793216:=by
 have e:cF true (an 3 2)=az (-1):=by
  rw[qu,aeL,pZ (by omega)]
  have:az (-1)= -1:=by rw[hI,e2]
  rw[this]
  simp only[bD.pow,un,bD.I,bD.one,bD.mul]
  grind
 rw[Ba (ft _ _) (jd (by omega)) (El e)]
 decide+kernel
theorem aid:bG false (an 1 2)=0:=by
 have e:cF false (an 1 2)=az 0:=by
  rw[rW,aeM,pZ (by omega),pow_one];rfl
 rw[Ba (ft _ _) (jd (by omega)) (El e)]
 decide+kernel
theorem atX:bG true (an 1 2)=4607182418800017408:=by
 have e:cF true (an 1 2)=az 1:=by
  rw[qu,aeM,pZ (by omega),pow_one];rfl
 rw[Ba (ft _ _) (jd (by omega)) (El e)]
 decide+kernel
theorem aie:bG false (an 0 0)=4607182418800017408:=by
 have e:cF false (an 0 0)=az 1:=by
  rw[rW,show an 0 0=0 by decide];rfl
 rw[Ba (ft _ _) (jd (by omega)) (El e)]
 decide+kernel
theorem atY:bG true (an 0 0)=0:=by
 have e:cF true (an 0 0)=az 0:=by
  rw[qu,show an 0 0=0 by decide];rfl
 rw[Ba (ft _ _) (jd (by omega)) (El e)]
 decide+kernel
theorem awP:bG true (an 1 4)=4600565431771507043:=by
 have e:cF true (an 1 4)=aE 1:=by
  rw[qu,aeK,pZ (by omega),pow_one];rfl
 have h:=(DL 1 (by omega)).2
 have:=aar (n:=160) (E:=4096) (z:=(gq 1).2 / 2^96) h.1 h.2 (by omega) (by decide+kernel) (by decide+kernel)
 rw[←e]at this
 rw[Ba (ft _ _) (jd (by omega)) this]
 decide+kernel
theorem sc (q n:Nat) (b:Bool):((dw q n).map (eb b)).length=n:=by unfold dw;rw[List.length_map,List.length_map,List.length_range]
theorem SF {q n i:Nat} (b:Bool) (h:i<n):((dw q n).map (eb b)).getD i 0=eb b (iW (an (i:Int) q)):=by
 rw[List.getD_eq_getElem?_getD,List.getElem?_eq_getElem (by rw[sc];exact h)]
 unfold dw
 simp
theorem Sh {q n i:Nat} (b:Bool) (aO:q≤14) (h:i<n):cW (((dw q n).map (eb b)).getD i 0) (bG b (an (i:Int) q))=true:=by
 rw[SF b h]
 have:=aaq (ft (i:Int) q) (jd aO)
 cases b
 ·exact this.1
 ·exact this.2
theorem aa4:kn ((dw 3 3).map (eb false)) [4607182418800017408,4604544271217802189,0]=true∧kn ((dw 3 3).map (eb true)) [0,4604544271217802189,4607182418800017408]=true:=by
 have dE:an ((0:Nat):Int) 3=an 0 0:=by decide
 have ej:an ((2:Nat):Int) 3=an 1 2:=by decide
 constructor
 ·refine M6 (by rw[sc];rfl) (fun i hi=> ?_)
  rw[sc]at hi
  have h:=Sh (q:=3) (n:=3) (i:=i) false (by omega) hi
  rcases (by omega:i=0∨i=1∨i=2)with rfl|rfl|rfl
  ·rw[dE,aie]at h;exact CQ h
  ·rw[show ((1:Nat):Int)=1 from rfl,aic]at h;exact CQ h
  ·rw[ej,aid]at h;exact CQ h
 ·refine M6 (by rw[sc];rfl) (fun i hi=> ?_)
  rw[sc]at hi
  have h:=Sh (q:=3) (n:=3) (i:=i) true (by omega) hi
  rcases (by omega:i=0∨i=1∨i=2)with rfl|rfl|rfl
  ·rw[dE,atY]at h;exact CQ h
  ·rw[show ((1:Nat):Int)=1 from rfl,atW]at h;exact CQ h
  ·rw[ej,atX]at h;exact CQ h
def hP:br where
 pre:=fun ds=>ds=[]
 res:=fun _=> .bool true
theorem HB (Γ:Env) (Lr:Γ.has 49 j3) (pk:Γ.has 44 dX) (pn:Γ.has 46 ed) (VX:Γ.has 48 qv) (ds:List D) (h:hP.pre ds):bK Γ agE agF ds fun d=>d=hP.res ds:=by
 cases h
 have bO:hP.res []= .bool true:=rfl
 rw[bO]
 have qD:j3.pre [.int .i64 3,.int .i64 3]:=⟨3,3,rfl,by omega,by omega⟩
 have qE:j3.res [.int .i64 3,.int .i64 3]= .agg [.flts ((dw 3 3).map (eb false)),.flts ((dw 3 3).map (eb true))]:=rfl
 have p1:dX.pre [.agg [.int .i64 1,.int .i64 3]]:=⟨1,3,rfl,by omega,jd (by omega)⟩
 have bA:dX.res [.agg [.int .i64 1,.int .i64 3]]= .flt 4604544271217802189:=by rw[←aic];rfl
 have cq:ed.pre [.agg [.int .i64 3,.int .i64 2]]:=⟨3,2,rfl,by omega,jd (by omega)⟩
 have bX:ed.res [.agg [.int .i64 3,.int .i64 2]]= .flt 13830554455654793216:=by rw[←awO];rfl
 have fK:dX.pre [.agg [.int .i64 1,.int .i64 2]]:=⟨1,2,rfl,by omega,jd (by omega)⟩
 have eJ:dX.res [.agg [.int .i64 1,.int .i64 2]]= .flt 0:=by rw[←aid];rfl
 have Av:dX.pre [.agg [.int .i64 0,.int .i64 0]]:=⟨0,0,rfl,by omega,jd (by omega)⟩
 have Ce:dX.res [.agg [.int .i64 0,.int .i64 0]]= .flt 4607182418800017408:=by rw[←aie];rfl
 have WM:ed.pre [.agg [.int .i64 1,.int .i64 4]]:=⟨1,4,rfl,by omega,jd (by omega)⟩
 have HH:ed.res [.agg [.int .i64 1,.int .i64 4]]= .flt 4600565431771507043:=by rw[←awP];rfl
 have dP:cW 4604544271217802189 4604544271217802189=true:=tr (gZ (s:=false) (r:=4604544271217802189) (by decide) (by decide))
 have fw:cW 13830554455654793216 13830554455654793216=true:=tr (gZ (s:=true) (r:=4607182418800017408) (by decide) (by decide))
 have gF:cW 0 0=true:=tr uU
 have uJ:cW 4607182418800017408 4607182418800017408=true:=tr (gZ (s:=false) (r:=4607182418800017408) (by decide) (by decide))
 have Wj:cW 4600565431771507043 4600565431771507043=true:=tr (gZ (s:=false) (r:=4600565431771507043) (by decide) (by decide))
 have iA:qv.pre [.agg [.flts ((dw 3 3).map (eb false)),.flts ((dw 3 3).map (eb true))],.agg [.flts [4607182418800017408,4604544271217802189,0],.flts [0,4604544271217802189,4607182418800017408]]]:=by
  exact⟨_,_,_,_,rfl,by rw[sc];omega,by rw[sc];omega,by decide,by decide⟩
 have ic:qv.res [.agg [.flts ((dw 3 3).map (eb false)),.flts ((dw 3 3).map (eb true))],.agg [.flts [4607182418800017408,4604544271217802189,0],.flts [0,4604544271217802189,4607182418800017408]]]= .bool true:=by
  show D.bool (_ && _)=_
  rw[aa4.1,aa4.2];rfl
 generalize (dw 3 3).map (eb false)=A at*
 generalize (dw 3 3).map (eb true)=B at*
 simp (maxSteps:=9^9) only[↓al,ak,simprocAttr,agE,agF,Lr,qD,qE,pk,p1,bA,dP,pn,cq,bX,fw,fK,eJ,gF,Av,Ce,uJ,WM,HH,Wj,VX,iA,ic]
 try trivial
def iy:br where
 pre:=fun ds=>∃K Q:Int,ds=[cd K Q]
 res:=fun ds=>match ds with
  |[.agg r]=> .bool (jT r)
  |_=> .nilp
theorem Ls (Γ:Env) (aif:Γ.has 93 vW) (ds:List D) (h:iy.pre ds):bK Γ U4 U5 ds fun d=>d=iy.res ds:=by
 obtain⟨K,Q,rfl⟩:=h
 have p1:vW.pre [.agg [.int .i64 K,.int .i64 Q]]:=⟨K,Q,rfl⟩
 have bA:vW.res [.agg [.int .i64 K,.int .i64 Q]]= .bool (decide (0≤Q∧Q≤40∧-1099511627776≤K∧K≤1099511627776)):=rfl
 have bO:iy.res [cd K Q]= .bool (decide (0≤Q∧Q≤40∧-1099511627776≤K∧K≤1099511627776) && decide (Q≤14)):=rfl
 rw[bO]
 unfold cd
 generalize decide (0≤Q∧Q≤40∧-1099511627776≤K∧K≤1099511627776)=x at*
 cases x with
 |true=>simp (maxSteps:=9^9) only[↓al,ak,simprocAttr,U4,U5,aif,p1,bA,Bool.true_and]
 |false=>simp (maxSteps:=9^9) only[↓al,ak,simprocAttr,U4,U5,aif,p1,bA,Bool.false_and]
def qw:br where
 pre:=fun ds=>∃w:Nat,ds=[.flt w]∧(Ku w 13835058055282163712=true∧BL w 4611686018427387904=true)
 res:=fun _=> .bool true
theorem VY (Γ:Env) (ds:List D) (h:qw.pre ds):bK Γ afZ af0 ds fun d=>d=qw.res ds:=by
 obtain⟨w,rfl,h1,h2⟩:=h
 have bO:∀ds,qw.res ds= .bool true:=fun _=>rfl
 simp (maxSteps:=9^9) only[↓al,ak,simprocAttr,afZ,af0,h1,h2,bO]
end RV.Dr
namespace RV.Dr
open Go RV
def c2 (x:a8):List ag:=[.d (.bool x.neg),.d (.ints .i64 (au x.m)),.d (.int .i64 x.e)]
def xJ (x y:a8):List ag:=[.d (.bool x.neg),.d (.ints .i64 (au x.m)),.d (.int .i64 x.e),.d (.bool y.neg),.d (.ints .i64 (au y.m)),.d (.int .i64 y.e)]
def bN (s:St) (i:Nat) (cs:List ag):Prop:=s.af i= .box i 0∧s.aA i=some ⟨false,false,.cells cs⟩
end RV.Dr
namespace RV.Dr
open Go RV RR
set_option linter.unusedSimpArgs false
set_option linter.unusedVariables false
set_option maxRecDepth 100000
set_option maxHeartbeats 8000000
theorem aa5 {b c:Bool} {a b7:Nat} (b4:a<1152921504606846976) (hH:a0 a≤14) (PY:b7<1152921504606846976) (PZ:a0 b7≤14) (e:cF b b7=cF c a):cW (bG b b7) (bG c a)=true:=by
 have h:ht (cF c a) (bG b b7):=by rw[←e];exact .inl (jR PY PZ)
 exact h.same (.inl (jR b4 hH)) (Bl b4 hH)
theorem NO {b c:Bool} {a b7:Nat} (b4:a<1152921504606846976) (hH:a0 a≤14) (PY:b7<1152921504606846976) (PZ:a0 b7≤14) (e:cF b b7= -cF c a):cW (bG b b7) (hb (bG c a))=true:=by
 have h:ht (cF b b7) (bG b b7):= .inl (jR PY PZ)
 have k:ht (cF b b7) (hb (bG c a)):=by rw[e];exact ht.neg (.inl (jR b4 hH))
 exact h.same k (Bl PY PZ)
def HT:br where
 pre:=fun ds=>∃K Q:Int,ds=[.agg [.int .i64 K,.int .i64 Q]]
 res:=fun _=> .bool true
theorem ayT (Γ:Env) (v5:Γ.has 42 hP) (qx:Γ.has 43 iy) (pk:Γ.has 44 dX) (pn:Γ.has 46 ed) (awQ:Γ.has 60 y5) (P0:Γ.has 61 rS) (ds:List D) (h:HT.pre ds):bK Γ aja ajb ds fun d=>d=HT.res ds:=by
 obtain⟨cn,gg,rfl⟩:=h
 have bO:∀ds,HT.res ds= .bool true:=fun _=>rfl
 have xR:hP.pre []:=rfl
 have xS:hP.res []= .bool true:=rfl
 have qO:iy.pre [.agg [.int .i64 cn,.int .i64 gg]]:=⟨_,_,rfl⟩
 have rg:iy.res [.agg [.int .i64 cn,.int .i64 gg]]= .bool (jT [.int .i64 cn,.int .i64 gg]):=rfl
 rw[bO,gx]
 unfold aja ajb
 refine bC (fun s=>bN s 1 [.d (.int .i64 cn),.d (.int .i64 gg)]) (by simp (maxSteps:=9^9) only[↓al,ak,simprocAttr,bN]) ?_
 rintro s ⟨h1,bM⟩
 refine bC (fun s=>s.af 3= .d (.bool true)∧bN s 1 [.d (.int .i64 cn),.d (.int .i64 gg)]) (by simp (maxSteps:=9^9) only[↓al,ak,simprocAttr,h1,bM,bN,v5,xR,xS]) ?_
 clear h1 bM
 rintro s ⟨aq,h1,bM⟩
 refine bC (fun s=>(jT [.int .i64 cn,.int .i64 gg])=true∧s.af 3= .d (.bool true)∧bN s 1 [.d (.int .i64 cn),.d (.int .i64 gg)]) ?_ ?_
 ·generalize (jT [.int .i64 cn,.int .i64 gg])=t at*
  cases t with
  |false=>simp (maxSteps:=9^9) only[↓al,ak,simprocAttr,aq,h1,bM,bN,qx,qO,rg,Bool.not_false]
  |true=>simp (maxSteps:=9^9) only[↓al,ak,simprocAttr,aq,h1,bM,bN,qx,qO,rg,Bool.not_true]
 clear aq h1 bM qO rg
 rintro s ⟨bb,aq,h1,bM⟩
 obtain⟨dt,rfl,D4,ax,WN⟩:=Ew bb
 obtain⟨cz,h4⟩:∃a,a=an cn dt:=⟨_,rfl⟩
 have ko:cz<1152921504606846976:=h4▸ft _ _
 have h5:a0 cz≤14:=h4▸jd D4
 obtain⟨cj,yN⟩:∃a,a=(1152921504606846976 - cz) % 1152921504606846976:=⟨_,rfl⟩
 have ru:cj<1152921504606846976:=by rw[yN];omega
 have yO:a0 cj≤14:=by
  rw[u5 ru,yN]
  have:=(u5 ko).1 h5;omega
 have N3:=arz ko
 rw[←yN]at N3
 obtain⟨ib,J5⟩:∃a,a=(cz+576460752303423488) % 1152921504606846976:=⟨_,rfl⟩
 have OP:ib<1152921504606846976:=by rw[J5];omega
 have T9:a0 ib≤14:=by
  rw[u5 OP,J5]
  have:=(u5 ko).1 h5;omega
 have N4:=apH cz
 rw[←J5]at N4
 obtain⟨uO,J6⟩:∃a,a=(cz+288230376151711744) % 1152921504606846976:=⟨_,rfl⟩
 have OQ:uO<1152921504606846976:=by rw[J6];omega
 have Ua:a0 uO≤14:=by
  rw[u5 OQ,J6]
  have:=(u5 ko).1 h5;omega
 have N5:=apI cz
 rw[←J6]at N5
 have v1:cW (bG false cj) (bG false cz)=true:=aa5 ko h5 ru yO (by rw[rW,rW,N3])
 have v2:cW (bG true cj) (hb (bG true cz))=true:=NO ko h5 ru yO (by rw[qu,qu,N3])
 have Au:cW (bG false ib) (hb (bG false cz))=true:=NO ko h5 OP T9 (by rw[rW,rW,N4])
 have v4:cW (bG true ib) (hb (bG true cz))=true:=NO ko h5 OP T9 (by rw[qu,qu,N4])
 have HU:cW (bG false uO) (hb (bG true cz))=true:=NO ko h5 OQ Ua (by rw[rW,qu,N5])
 have v6:cW (bG true uO) (bG false cz)=true:=aa5 ko h5 OQ Ua (by rw[qu,rW,N5])
 have fp:dX.pre [.agg [.int .i64 cn,.int .i64 dt]]:=⟨cn,dt,rfl,by omega,h4▸h5⟩
 have ey:dX.res [.agg [.int .i64 cn,.int .i64 dt]]= .flt (bG false cz):=by simp only[dX,Int.toNat_natCast,←h4]
 have qL:ed.pre [.agg [.int .i64 cn,.int .i64 dt]]:=⟨cn,dt,rfl,by omega,h4▸h5⟩
 have qM:ed.res [.agg [.int .i64 cn,.int .i64 dt]]= .flt (bG true cz):=by simp only[ed,Int.toNat_natCast,←h4]
 have Qj:∀x:Nat,x<1152921504606846976→a0 x≤14→dX.pre [.agg [.int .i64 (b5 x),.int .i64 (a0 x)]]∧dX.res [.agg [.int .i64 (b5 x),.int .i64 (a0 x)]]= .flt (bG false x)∧ed.pre [.agg [.int .i64 (b5 x),.int .i64 (a0 x)]]∧ed.res [.agg [.int .i64 (b5 x),.int .i64 (a0 x)]]= .flt (bG true x):=by
  intro x c7 ajy
  refine⟨⟨_,_,rfl,by omega,by rw[kj c7];exact ajy⟩,?_,⟨_,_,rfl,by omega,by rw[kj c7];exact ajy⟩,?_⟩
  ·simp only[dX,Int.toNat_natCast,kj c7]
  ·simp only[ed,Int.toNat_natCast,kj c7]
 obtain⟨awR,awS,awT,awU⟩:=Qj cj ru yO
 obtain⟨awV,awW,awX,awY⟩:=Qj ib OP T9
 obtain⟨awZ,aw0,aw1,aw2⟩:=Qj uO OQ Ua
 have aw3:y5.pre [.agg [.int .i64 cn,.int .i64 dt]]:=⟨cn,dt,rfl,(by omega),(by first|exact ax|(simp only[aI];omega))⟩
 have aw4:y5.res [.agg [.int .i64 cn,.int .i64 dt]]= .agg [.int .i64 (b5 cj),.int .i64 (a0 cj)]:=by
  have q:an (-(cn:Int)) (dt)=cj:=by rw[aaI,←h4,yN]
  rw[awd,q]
 have aw5:rS.pre [.agg [.int .i64 cn,.int .i64 dt],.agg [.int .i64 1,.int .i64 1]]:=⟨cn,dt,1,1,rfl,(by omega),(by omega),ax,(by simp only[aI];omega)⟩
 have aw6:rS.res [.agg [.int .i64 cn,.int .i64 dt],.agg [.int .i64 1,.int .i64 1]]= .agg [.int .i64 (b5 ib),.int .i64 (a0 ib)]:=by
  have q:(an (cn:Int) (dt)+an (1:Int) (1)) % 1152921504606846976=ib:=by rw[←h4,(show an 1 1=576460752303423488 by decide),J5]
  rw[←q];rfl
 have aw7:rS.pre [.agg [.int .i64 cn,.int .i64 dt],.agg [.int .i64 1,.int .i64 2]]:=⟨cn,dt,1,2,rfl,(by omega),(by omega),ax,(by simp only[aI];omega)⟩
 have aw8:rS.res [.agg [.int .i64 cn,.int .i64 dt],.agg [.int .i64 1,.int .i64 2]]= .agg [.int .i64 (b5 uO),.int .i64 (a0 uO)]:=by
  have q:(an (cn:Int) (dt)+an (1:Int) (2)) % 1152921504606846976=uO:=by rw[←h4,(show an 1 2=288230376151711744 by decide),J6]
  rw[←q];rfl
 generalize bG false cz=r8 at*
 generalize bG true cz=ws at*
 generalize bG false cj=bR at*
 generalize bG true cj=s1 at*
 generalize bG false ib=r5 at*
 generalize bG true ib=aAB at*
 generalize bG false uO=aAC at*
 generalize bG true uO=aAD at*
 clear Qj N3 N4 N5 yN J5 J6
 refine bC (fun s=>s.af 3= .d (.bool true)∧s.af 4= .d (.flt r8)∧bN s 1 [.d (.int .i64 cn),.d (.int .i64 dt)]) (by simp (maxSteps:=9^9) only[↓al,ak,simprocAttr,aq,h1,bM,bN,pk,fp,ey]) ?_
 clear aq h1 bM
 rintro s ⟨aq,aK,h1,bM⟩
 refine bC (fun s=>s.af 3= .d (.bool true)∧s.af 4= .d (.flt r8)∧s.af 5= .d (.flt ws)∧bN s 1 [.d (.int .i64 cn),.d (.int .i64 dt)]) (by simp (maxSteps:=9^9) only[↓al,ak,simprocAttr,aq,aK,h1,bM,bN,pn,qL,qM]) ?_
 clear aq aK h1 bM
 rintro s ⟨aq,aK,aG,h1,bM⟩
 refine bC (fun s=>s.af 3= .d (.bool true)∧s.af 4= .d (.flt r8)∧s.af 5= .d (.flt ws)∧bN s 1 [.d (.int .i64 cn),.d (.int .i64 dt)]∧bN s 6 [.d (.int .i64 (b5 cj)),.d (.int .i64 (a0 cj))]) (by simp (maxSteps:=9^9) only[↓al,ak,simprocAttr,aq,aK,aG,h1,bM,bN,awQ,aw3,aw4]) ?_
 clear aq aK aG h1 bM
 rintro s ⟨aq,aK,aG,⟨h1,bM⟩,aM,aY⟩
 refine bC (fun s=>s.af 3= .d (.bool true)∧s.af 4= .d (.flt r8)∧s.af 5= .d (.flt ws)∧bN s 1 [.d (.int .i64 cn),.d (.int .i64 dt)]∧bN s 6 [.d (.int .i64 (b5 cj)),.d (.int .i64 (a0 cj))]∧bN s 7 [.d (.int .i64 (b5 ib)),.d (.int .i64 (a0 ib))]) (by simp (maxSteps:=9^9) only[↓al,ak,simprocAttr,aq,aK,aG,h1,bM,aM,aY,bN,P0,aw5,aw6]) ?_
 clear aq aK aG h1 bM aM aY
 rintro s ⟨aq,aK,aG,⟨h1,bM⟩,⟨aM,aY⟩,aS,b6⟩
 refine bC (fun s=>s.af 3= .d (.bool true)∧s.af 4= .d (.flt r8)∧s.af 5= .d (.flt ws)∧bN s 6 [.d (.int .i64 (b5 cj)),.d (.int .i64 (a0 cj))]∧bN s 7 [.d (.int .i64 (b5 ib)),.d (.int .i64 (a0 ib))]∧bN s 8 [.d (.int .i64 (b5 uO)),.d (.int .i64 (a0 uO))]) (by simp (maxSteps:=9^9) only[↓al,ak,simprocAttr,aq,aK,aG,h1,bM,aM,aY,aS,b6,bN,P0,aw7,aw8]) ?_
 clear aq aK aG h1 bM aM aY aS b6
 rintro s ⟨aq,aK,aG,⟨aM,aY⟩,⟨aS,b6⟩,bn,bZ⟩
 simp (maxSteps:=9^9) only[↓al,ak,simprocAttr,aq,aK,aG,aM,aY,aS,b6,bn,bZ,pk,pn,awR,awS,awT,awU,awV,awW,awX,awY,awZ,aw0,aw1,aw2,v1,v2,Au,v4,HU,v6]
 try trivial
end RV.Dr
namespace RV.Dr
open Go RV RR
set_option linter.unusedSimpArgs false
set_option linter.unusedVariables false
set_option maxRecDepth 100000
set_option maxHeartbeats 8000000
theorem tB {w:Nat} (fJ:Fin w) (hw:w<18446744073709551616):(dm w).win (-1074) 1100:=by
 obtain⟨bA,bX,eJ⟩:=X6 hw
 have aW:=Nat.mod_lt (w / 4503599627370496) (show 2048>0 by decide)
 have a5:=Nat.mod_lt w (show 4503599627370496>0 by decide)
 generalize w / 4503599627370496 % 2048=E at*
 generalize w % 4503599627370496=f at*
 have Ww:∀m:Nat,m<9007199254740992→a1 m≤53:=fun m hm=>ho.2 hm
 by_cases lS:E=0
 ·rw[bA lS]
  exact sf (fun _=>⟨by omega,by have:=Ww f (by omega);omega⟩)
 ·rw[bX lS (fun e=>eJ e fJ)]
  exact sf (fun _=>⟨by omega,by have:=Ww (f+4503599627370496) (by omega);omega⟩)
theorem ht.lt {x:R} {w:Nat} (h:ht x w):w<18446744073709551616:=by
 rcases h with h|⟨_,rfl⟩
 ·exact h.lt
 ·decide
theorem M7:eI 4607182418800017408=1:=by
 have aN:hE 4607182418800017408=4503599627370496:=by decide
 have aX:iw 4607182418800017408= -52:=by decide
 unfold eI
 rw[aN,aX,show (4503599627370496:Nat)=2^52 by decide,iZ,←g7];rfl
theorem X7 {r:Nat} {y:R} (ar:4503599627370497≤r) (m:rV r y) (h:y≤1):r≤4607182418800017408:=by
 by_cases c:r≤4607182418800017408
 ·exact c
 ·exfalso
  have a:=qT (r:=4607182418800017408) (s:=r - 1) (by decide) (by omega)
  have b:=qT (r:=4607182418800017408+1) (s:=r) (by decide) (by omega)
  have d:=Jh (r:=4607182418800017408) (by decide)
  rw[M7]at a d
  have:=m.1
  grind
theorem CM {x:R} {w:Nat} (h:ht x w) (aj: -1≤x∧x≤1):(-1≤dI w∧dI w≤1)∧Fin (w % 9223372036854775808)∧BL (w % 9223372036854775808) 4607182418800017408=true:=by
 have o:=uT
 have xQ:Fin 4607182418800017408:=gZ (s:=false) (r:=4607182418800017408) (by decide) (by decide)
 have f1:dI 4607182418800017408=1:=by
  have:=jS (s:=false) (r:=4607182418800017408) (by decide) (by decide)
  rw[M7]at this;exact this
 have z:dI 0=0:=yg
 have WO:dI kF=0:=by
  unfold dI
  rw[yy (w:=kF) (s:=true) (m:=0) (e:= -1074) (by decide)]
  exact IU (by decide)
 have lN:BL 0 4607182418800017408=true:=by rw[Se uU xQ,z,f1];grind
 rcases h with (⟨_,rfl⟩|⟨s,r,y,jH,hy,rfl,h1,h2,hm⟩)|⟨_,rfl⟩
 ·exact⟨by rw[z];grind,uU,lN⟩
 ·have gW:y≤1:=by split at hy<;>grind
  have AB:=X7 h1 hm gW
  have aU:=qT (r:=r) (s:=4607182418800017408) (by omega) AB
  rw[M7]at aU
  have pv:=u0 r
  have v:=jS (s:=s) (r:=r) (by omega) (by omega)
  have gd:dI (wd false r)=eI r:=jS (s:=false) (r:=r) (by omega) (by omega)
  refine⟨?_,?_,?_⟩
  ·rw[v];split<;>grind
  ·rw[Ji (by omega)];exact gZ (s:=false) (r:=r) (by omega) (by omega)
  ·rw[Ji (by omega)]
   show BL (wd false r) _=true
   rw[Se (gZ (by omega) (by omega)) xQ,gd,f1];exact aU
 ·refine⟨by rw[WO];grind,?_,?_⟩
  ·exact uU
  ·exact lN
theorem aoa (i:Int) {k:Nat} (h:k≤50):an (2*i) (k+1)=an i k:=by
 unfold an
 have:(2:Nat)^(60 - k)=2*2^(60 - (k+1)):=by rw[show 60 - k=60 - (k+1)+1 by omega,Nat.pow_succ,Nat.mul_comm]
 rw[this,Int.natCast_mul,←Int.mul_assoc,Int.mul_comm i]
 rfl
def DR:br where
 pre:=fun ds=>∃w:Nat,ds=[.flt w]∧Fin w∧w<18446744073709551616
 res:=fun ds=>match ds with
  |[.flt w]=>a2 (tx (dm w))
  |_=> .nilp
theorem aw9 (Γ:Env) (zb:Γ.has 53 ix) (Ag:Γ.has 24 hB) (ds:List D) (h:DR.pre ds):bK Γ af3 af4 ds fun d=>d=DR.res ds:=by
 obtain⟨w,rfl,fJ,hw⟩:=h
 have bO:DR.res [.flt w]=a2 (tx (dm w)):=rfl
 rw[bO]
 have p1:ix.pre [.flt w]:=⟨w,rfl,fJ,hw⟩
 have bA:ix.res [.flt w]= .du [aV (dm w),.bool true]:=rfl
 have cq:hB.pre [aV (dm w)]:=⟨_,rfl⟩
 have bX:hB.res [aV (dm w)]=a2 (tx (dm w)):=by simp only[hB,aV,aZ,ck]
 unfold tx at*
 generalize dm w=x at*
 unfold aV a2 aZ at*
 simp (maxSteps:=9^9) only[↓al,ak,simprocAttr,af3,af4,zb,p1,bA,Ag,cq,bX]
def HV:br where
 pre:=fun ds=>∃q m t:Int,ds=[.int .u8 q,.int .u8 m,.int .u8 t]∧0≤q∧q<256∧0≤m∧m<256∧0≤t∧t<256
 res:=fun _=> .bool true
theorem ayU (Γ:Env) (v5:Γ.has 42 hP) (Lr:Γ.has 49 j3) (pk:Γ.has 44 dX) (pn:Γ.has 46 ed) (Lm:Γ.has 63 j2) (axa:Γ.has 64 DR) (DP:Γ.has 59 iN) (axb:Γ.has 28 Ad) (ds:List D) (h:HV.pre ds):bK Γ aje ajf ds fun d=>d=HV.res ds:=by
 obtain⟨q,m,t,rfl,ep,dP,HP,e0,t0,t1⟩:=h
 have bO:∀ds,HV.res ds= .bool true:=fun _=>rfl
 have xR:hP.pre []:=rfl
 have xS:hP.res []= .bool true:=rfl
 obtain⟨k,ad⟩:∃k:Nat,q.tmod 7=(k:Int):=⟨(q.tmod 7).toNat,by have:=Int.tmod_nonneg 7 ep;omega⟩
 have aAa:k<7:=by have:=Int.tmod_lt_of_pos q (show (0:Int)<7 by decide);omega
 obtain⟨P,uM⟩:∃P:Nat,P=2^k:=⟨_,rfl⟩
 have axc:1≤P:=by rw[uM];exact Nat.one_le_two_pow
 have atZ:P≤64:=by rw[uM,show 64=2^6 by decide];exact Nat.pow_le_pow_right (by decide) (by omega)
 have VZ:k≤64:=by omega
 have mI:(1:Int)*2^k=(P:Int):=by
  rw[Int.one_mul,uM];exact(Int.natCast_pow 2 k).symm
 obtain⟨n,aJ⟩:∃n:Nat,m.tmod ((P:Int)+1)=(n:Int):=⟨(m.tmod ((P:Int)+1)).toNat,by have:=Int.tmod_nonneg ((P:Int)+1) HP;omega⟩
 have axd:n≤P:=by have:=Int.tmod_lt_of_pos m (show (0:Int)<(P:Int)+1 by omega);omega
 rw[bO,gx]
 unfold aje ajf
 refine bC (fun s=>s.af 0= .d (.int .u8 q)∧s.af 1= .d (.int .u8 m)∧s.af 2= .d (.int .u8 t)) (by simp (maxSteps:=9^9) only[↓al,ak,simprocAttr]) ?_
 rintro s ⟨h0,h1,h2⟩
 refine bC (fun s=>s.af 7= .d (.bool true)∧s.af 0= .d (.int .u8 q)∧s.af 1= .d (.int .u8 m)∧s.af 2= .d (.int .u8 t)) (by simp (maxSteps:=9^9) only[↓al,ak,simprocAttr,h0,h1,h2,v5,xR,xS]) ?_
 clear h0 h1 h2
 rintro s ⟨aS,h0,h1,h2⟩
 have WQ:aI q:=by simp only[aI];omega
 have de:aI m:=by simp only[aI];omega
 have it:aI t:=by simp only[aI];omega
 refine bC (fun s=>s.af 7= .d (.bool true)∧s.af 8= .d (.int .i64 k)∧s.af 1= .d (.int .u8 m)∧s.af 2= .d (.int .u8 t)) (by simp (maxSteps:=9^9) only[↓al,ak,simprocAttr,aS,h0,h1,h2,WQ,ad];first|done|decide) ?_
 clear aS h0 h1 h2
 rintro s ⟨aS,bn,h1,h2⟩
 have iR:(0:Int)≤(k:Int):=by omega
 have WR:aI (P:Int):=by simp only[aI];omega
 have V0:aI ((P:Int)+1):=by simp only[aI];omega
 have V1:¬((P:Int)+1=0):=by omega
 refine bC (fun s=>s.af 7= .d (.bool true)∧s.af 8= .d (.int .i64 k)∧s.af 9= .d (.int .i64 n)∧s.af 2= .d (.int .u8 t)) (by simp (maxSteps:=9^9) only[↓al,ak,simprocAttr,aS,bn,h1,h2,de,iR,VZ,mI,WR,V0,V1,aJ,ne_eq,not_false_eq_true]) ?_
 clear aS bn h1 h2
 rintro s ⟨aS,bn,bH,h2⟩
 have qD:j3.pre [.int .i64 k,.int .i64 n]:=⟨k,n,rfl,by omega,by omega⟩
 have qE:j3.res [.int .i64 k,.int .i64 n]= .agg [.flts ((dw k n).map (eb false)),.flts ((dw k n).map (eb true))]:=by simp only[j3,Int.toNat_natCast]
 have ayV:=sc k n false
 have ayW:=sc k n true
 have pa:=fun i (h:i<n)=>SF (q:=k) (n:=n) (i:=i) false h
 have px:=fun i (h:i<n)=>SF (q:=k) (n:=n) (i:=i) true h
 generalize (dw k n).map (eb false)=A at*
 generalize (dw k n).map (eb true)=B at*
 refine bC (fun s=>s.af 7= .d (.bool true)∧s.af 8= .d (.int .i64 k)∧s.af 9= .d (.int .i64 n)∧s.af 2= .d (.int .u8 t)∧bN s 10 [.d (.flts A),.d (.flts B)]) (by simp (maxSteps:=9^9) only[↓al,ak,simprocAttr,aS,bn,bH,h2,Lr,qD,qE,bN]) ?_
 clear aS bn bH h2
 rintro s ⟨aS,bn,bH,h2,bI,fv⟩
 have xN:(((A.length:Nat):Int) !=(n:Int))=false:=by rw[ayV];simp
 have ayX:(((B.length:Nat):Int) !=(n:Int))=false:=by rw[ayW];simp
 refine bC (fun s=>s.af 7= .d (.bool true)∧s.af 8= .d (.int .i64 k)∧s.af 9= .d (.int .i64 n)∧s.af 2= .d (.int .u8 t)∧bN s 10 [.d (.flts A),.d (.flts B)]) (by simp (maxSteps:=9^9) only[↓al,ak,simprocAttr,aS,bn,bH,h2,bI,fv,xN,ayX,bN]) ?_
 clear aS bn bH h2 bI fv
 rintro s ⟨aS,bn,bH,h2,bI,fv⟩
 refine bC (fun s=>n≠0∧s.af 7= .d (.bool true)∧s.af 8= .d (.int .i64 k)∧s.af 9= .d (.int .i64 n)∧s.af 2= .d (.int .u8 t)∧bN s 10 [.d (.flts A),.d (.flts B)]) ?_ ?_
 ·by_cases qK:n=0
  ·have c:((n:Int)==0)=true:=by rw[qK];rfl
   simp (maxSteps:=9^9) only[↓al,ak,simprocAttr,aS,bn,bH,h2,bI,fv,c]
   try trivial
  ·have c:((n:Int)==0)=false:=beq_false_of_ne (by omega)
   simp (maxSteps:=9^9) only[↓al,ak,simprocAttr,aS,bn,bH,h2,bI,fv,c,qK,bN,ne_eq,not_false_eq_true]
 clear aS bn bH h2 bI fv
 rintro s ⟨qK,aS,bn,bH,h2,bI,fv⟩
 have ayY:¬((n:Int)=0):=by omega
 obtain⟨i,hi⟩:∃i:Nat,t.tmod (n:Int)=(i:Int):=⟨(t.tmod (n:Int)).toNat,by have:=Int.tmod_nonneg (n:Int) t0;omega⟩
 have gP:i<n:=by have:=Int.tmod_lt_of_pos t (show (0:Int)<(n:Int)by omega);omega
 refine bC (fun s=>s.af 7= .d (.bool true)∧s.af 8= .d (.int .i64 k)∧s.af 11= .d (.int .i64 i)∧bN s 10 [.d (.flts A),.d (.flts B)]) (by simp (maxSteps:=9^9) only[↓al,ak,simprocAttr,aS,bn,bH,h2,bI,fv,it,ayY,hi,bN,ne_eq,not_false_eq_true]) ?_
 clear aS bn bH h2 bI fv
 rintro s ⟨aS,bn,cv,bI,fv⟩
 have i2:aI (2*(i:Int)):=by simp only[aI];omega
 have ayZ:aI ((k:Int)+1):=by simp only[aI];omega
 refine bC (fun s=>s.af 7= .d (.bool true)∧s.af 11= .d (.int .i64 i)∧bN s 10 [.d (.flts A),.d (.flts B)]∧bN s 12 [.d (.int .i64 (2*(i:Int))),.d (.int .i64 ((k:Int)+1))]) (by simp (maxSteps:=9^9) only[↓al,ak,simprocAttr,aS,bn,cv,bI,fv,i2,ayZ,bN]) ?_
 clear aS bn cv bI fv
 rintro s ⟨aS,cv,⟨bI,fv⟩,cA,gE⟩
 have b4:=ft (i:Int) k
 have hH:a0 (an (i:Int) k)≤14:=jd (by omega)
 have hG:an (2*(i:Int)) (k+1)=an (i:Int) k:=aoa _ (by omega)
 obtain⟨cf,cP⟩:=abB b4 hH
 obtain⟨s1,s2⟩:=aaq b4 hH
 obtain⟨-,cj,ej⟩:=CM cf (k7 false _)
 obtain⟨bM,-,-⟩:=CM cP (k7 true _)
 have f1:=cf.fin
 have f2:=cP.fin
 have t1:=cf.lt
 have t2:=cP.lt
 have pa:=pa i gP
 have px:=px i gP
 have Wc:eb false (iW (an (i:Int) k))=(iW (an (i:Int) k)).1:=rfl
 have lL:eb true (iW (an (i:Int) k))=(iW (an (i:Int) k)).2:=rfl
 rw[Wc]at pa
 rw[lL]at px
 have fp:dX.pre [.agg [.int .i64 (2*(i:Int)),.int .i64 ((k:Int)+1)]]:=⟨2*(i:Int),k+1,rfl,by omega,by rw[hG];exact hH⟩
 have LI:((k:Int)+1).toNat=k+1:=by omega
 have ey:dX.res [.agg [.int .i64 (2*(i:Int)),.int .i64 ((k:Int)+1)]]= .flt (bG false (an (i:Int) k)):=by simp only[dX,LI,hG]
 have qL:ed.pre [.agg [.int .i64 (2*(i:Int)),.int .i64 ((k:Int)+1)]]:=⟨2*(i:Int),k+1,rfl,by omega,by rw[hG];exact hH⟩
 have qM:ed.res [.agg [.int .i64 (2*(i:Int)),.int .i64 ((k:Int)+1)]]= .flt (bG true (an (i:Int) k)):=by simp only[ed,LI,hG]
 generalize bG false (an (i:Int) k)=r8 at*
 generalize bG true (an (i:Int) k)=ws at*
 generalize (iW (an (i:Int) k)).1=x at*
 generalize (iW (an (i:Int) k)).2=y at*
 have kB:j2.pre [.flt x]:=⟨x,rfl,f1,cj,t1⟩
 have kC:j2.res [.flt x]= .flt (x % 9223372036854775808):=rfl
 have ta:DR.pre [.flt y]:=⟨y,rfl,f2,t2⟩
 have r3:DR.res [.flt y]=a2 ⟨dm y,dm y⟩:=rfl
 have LP:=tB f2 t2
 have D3:iN.pre [.int .i64 1]:=⟨1,rfl,by omega,by omega⟩
 have pm:iN.pre [.int .i64 (-1)]:=⟨-1,rfl,by omega,by omega⟩
 obtain⟨jF,GN⟩:∃o,o=mk false 1 0:=⟨_,rfl⟩
 obtain⟨oy,Ak⟩:∃o,o=mk true 1 0:=⟨_,rfl⟩
 have ro:iN.res [.int .i64 1]=aV jF:=by rw[GN];rfl
 have r2:iN.res [.int .i64 (-1)]=aV oy:=by rw[Ak];rfl
 have tb:dj jF:=by rw[GN];exact sf (fun _=>by decide)
 have WS:dj oy:=by rw[Ak];exact sf (fun _=>by decide)
 have ay0:bc jF=1:=by rw[GN,ES];simp only[Bool.false_eq_true,if_false];rw[oN,uY];grind
 have WT:bc oy= -1:=by rw[Ak,ES];simp only[if_true];rw[oN,uY];grind
 have xO:Ad.pre [a2 ⟨dm y,dm y⟩,a2 ⟨oy,jF⟩]:=⟨_,_,rfl,⟨win.up LP (by omega) (by omega),win.up LP (by omega) (by omega)⟩,WS,tb⟩
 have xP:Ad.res [a2 ⟨dm y,dm y⟩,a2 ⟨oy,jF⟩]= .bool true:=by
  simp only[Ad,a2,aZ,dY,EE]
  rw[decide_eq_true (vd.2 (by rw[WT];exact bM.1)),decide_eq_true (vd.2 (by rw[ay0];exact bM.2))]
  rfl
 generalize dm y=Y at*
 generalize x % 9223372036854775808=X at*
 clear GN Ak bO mI ad aJ hi
 have y2:(0:Int)≤(i:Int):=by omega
 have aih:(i:Int)<(A.length:Int):=by omega
 have aeT:i<A.length:=by omega
 have aii:(i:Int)<(B.length:Int):=by omega
 have aeU:i<B.length:=by omega
 unfold a2 aV aZ at*
 rw[So,RS,QV (by rfl)]
 refine ya 9 (fun s=>s.af 51= .d (.bool true)∧s.af 58= .d (.flt r8)∧s.af 56= .d (.flt x)∧s.af 11= .d (.int .i64 i)∧bN s 10 [.d (.flts A),.d (.flts B)]∧bN s 12 [.d (.int .i64 (2*(i:Int))),.d (.int .i64 ((k:Int)+1))]) ?_ ?_
 ·simp only[List.take_succ_cons,List.take_zero]
  simp (maxSteps:=9^9) only[↓al,ak,simprocAttr,aS,cv,bI,fv,cA,gE,y2,aih,aeT,Int.toNat_natCast,pa,pk,fp,ey,bN]
 clear aS cv bI fv cA gE
 rintro s ⟨aij,aik,ail,cv,⟨bI,fv⟩,cA,gE⟩
 simp only[List.drop_succ_cons,List.drop_zero]
 refine ya 3 (fun s=>s.af 61= .d (.bool true)∧s.af 11= .d (.int .i64 i)∧bN s 10 [.d (.flts A),.d (.flts B)]∧bN s 12 [.d (.int .i64 (2*(i:Int))),.d (.int .i64 ((k:Int)+1))]) ?_ ?_
 ·simp only[List.take_succ_cons,List.take_zero]
  simp (maxSteps:=9^9) only[↓al,ak,simprocAttr,aij,aik,ail,cv,bI,fv,cA,gE,s1,bN]
 clear aij aik ail cv bI fv cA gE
 rintro s ⟨Lt,cv,⟨bI,fv⟩,cA,gE⟩
 simp only[List.drop_succ_cons,List.drop_zero]
 refine ya 7 (fun s=>s.af 61= .d (.bool true)∧s.af 68= .d (.flt ws)∧s.af 66= .d (.flt y)∧s.af 11= .d (.int .i64 i)∧bN s 10 [.d (.flts A),.d (.flts B)]) ?_ ?_
 ·simp only[List.take_succ_cons,List.take_zero]
  simp (maxSteps:=9^9) only[↓al,ak,simprocAttr,Lt,cv,bI,fv,cA,gE,y2,aii,aeU,Int.toNat_natCast,px,pn,qL,qM,bN]
 clear Lt cv bI fv cA gE
 rintro s ⟨Lt,aim,ain,cv,bI,fv⟩
 simp only[List.drop_succ_cons,List.drop_zero]
 refine ya 3 (fun s=>s.af 71= .d (.bool true)∧s.af 11= .d (.int .i64 i)∧bN s 10 [.d (.flts A),.d (.flts B)]) ?_ ?_
 ·simp only[List.take_succ_cons,List.take_zero]
  simp (maxSteps:=9^9) only[↓al,ak,simprocAttr,Lt,aim,ain,cv,bI,fv,s2,bN]
 clear Lt aim ain cv bI fv
 rintro s ⟨B5,cv,bI,fv⟩
 simp only[List.drop_succ_cons,List.drop_zero]
 refine ya 6 (fun s=>s.af 71= .d (.bool true)∧s.af 77= .d (.flt X)∧s.af 11= .d (.int .i64 i)∧bN s 10 [.d (.flts A),.d (.flts B)]) ?_ ?_
 ·simp only[List.take_succ_cons,List.take_zero]
  simp (maxSteps:=9^9) only[↓al,ak,simprocAttr,B5,cv,bI,fv,y2,aih,aeT,Int.toNat_natCast,pa,Lm,kB,kC,bN]
 clear B5 cv bI fv
 rintro s ⟨B5,aio,cv,bI,fv⟩
 simp only[List.drop_succ_cons,List.drop_zero]
 refine ya 3 (fun s=>s.af 80= .d (.bool true)∧s.af 11= .d (.int .i64 i)∧bN s 10 [.d (.flts A),.d (.flts B)]) ?_ ?_
 ·simp only[List.take_succ_cons,List.take_zero]
  simp (maxSteps:=9^9) only[↓al,ak,simprocAttr,B5,aio,cv,bI,fv,ej,bN]
 clear B5 aio cv bI fv
 rintro s ⟨axe,cv,bI,fv⟩
 simp only[List.drop_succ_cons,List.drop_zero]
 simp (maxSteps:=9^9) only[↓al,ak,simprocAttr,axe,cv,bI,fv,y2,aii,aeU,Int.toNat_natCast,px,axa,ta,r3,DP,D3,ro,pm,r2,axb,xO,xP]
 try trivial
end RV.Dr
namespace RV
open Go Go.RowKit Go.ChangeShapes
section
variable {H:Type} {enc:TypeId×Value→H} {P:Program} {w:World} {base:Nat} {spare:Nat→Bool} {held:Bool} {fuel:Nat} {cs:List Value} {x:DataW H×List MemPlace}
def fieldsOf (P:Program) (t:TypeId):Option (List (TypeId×Nat)):=match P.underlying t with
 |some (.struct fs)=>some (fs.toList.map fun f=>(f.type,f.offset))
 |_=>none
theorem akr {t:TypeId} {l:List (TypeId×Nat)} (hf:fieldsOf P t=some l) (h:DataW.trod enc P w base spare held fuel t cs=some x):
 cs.length=P.cellsOf t∧∃n,∀y∈l,∃z,DataW.trod enc P w base spare held n y.1 ((cs.drop y.2).take (P.cellsOf y.1))=some z:=by
 unfold fieldsOf at hf
 split at hf
 ·rename_i fs hu
  simp only[Option.some.injEq]at hf
  subst hf
  obtain⟨xs,n,_,_,aH,aj,hi⟩:=DataW.trod_struct hu h
  refine⟨aH,n,fun y hy=> ?_⟩
  obtain⟨f,axf,rfl⟩:=List.mem_map.1 hy
  obtain⟨i,sS,VG⟩:=List.mem_iff_getElem.1 axf
  have axg:fs[i]? =some f:=by rw[←Array.getElem?_toList,List.getElem?_eq_getElem sS,VG]
  have:=hi i f axg
  have bl:i<xs.length:=by rw[aj,←Array.length_toList];exact sS
  rw[List.getElem?_eq_getElem bl]at this
  exact⟨_,this⟩
 ·cases hf
theorem E5 {t HW:TypeId} (hf:fieldsOf P t=some [(HW,0),(HW,1)]) (hi:P.underlying HW=some (.int .i64)) (ci:P.cellsOf HW=1) (uK:P.cellsOf t=2) (h:DataW.trod enc P w base spare held fuel t cs=some x):
 ∃y z:Int,bP w.cell? [.int .i64 y,.int .i64 z] cs:=by
 obtain⟨aH,n,oY⟩:=akr hf h
 rw[uK]at aH
 match cs,aH with
 |[dr,bR],_=>
  obtain⟨LR,h0⟩:=oY (HW,0) (by simp)
  obtain⟨eZ,h1⟩:=oY (HW,1) (by simp)
  simp only[ci,List.drop_zero,List.drop_succ_cons,List.take_succ_cons,List.take_zero]at h0 h1
  obtain⟨y,b8,_⟩:=DataW.trod_int hi h0
  obtain⟨z,aN,_⟩:=DataW.trod_int hi h1
  simp only[List.cons.injEq,and_true]at b8 aN
  subst b8;subst aN
  exact⟨y,z,by simp only[bP];exact⟨_,_,rfl,by simp only[bj],_,_,rfl,by simp only[bj],rfl⟩⟩
theorem Ex {t:TypeId} {l:List (TypeId×Nat)} (hf:fieldsOf P t=some l) {v:Value} (aB:Value.okWide P w .any base t v):∃arr,v= .agg arr∧v.cells=arr:=by
 unfold fieldsOf at hf
 unfold Value.okWide at aB
 split at hf
 ·rename_i fs hu
  rw[hu]at aB
  obtain⟨arr,rfl,_⟩:=aB
  exact⟨arr,rfl,rfl⟩
 ·cases hf
theorem Eh {t e:TypeId} {n:Nat} {k:IntKind} (ae:P.underlying t=some (.array n e)) (he:P.underlying e=some (.int k)) (ce:P.cellsOf e=1) {xs:List Int} {p:List MemPlace} (aj:xs.length=n)
 (h:DataW.trod enc P w base spare held fuel t cs=some (.agg (xs.map fun z=> .lit (.int k z)),p)):∀i,i<n→cs[i]? =some (.int k (xs.getD i 0)):=by
 obtain⟨aC,m,_,aip,_,aAb,hi⟩:=DataW.trod_array ae h
 simp only[Prod.mk.injEq,DataW.agg.injEq]at aip
 intro i gP
 have h1:=hi i gP
 rw[ce,Nat.mul_one,List.getElem?_eq_getElem (show i<aC.length by omega)]at h1
 obtain⟨z,aN,aX,_⟩:=DataW.trod_int he h1
 have aq:(xs.map fun z=>(DataW.lit (.int k z):DataW H))[i]? =(aC.map (·.1))[i]? :=by rw[aip.1]
 rw[List.getElem?_map,List.getElem?_map,List.getElem?_eq_getElem (show i<xs.length by omega),List.getElem?_eq_getElem (show i<aC.length by omega)]at aq
 simp only[Option.map_some,Option.some.injEq]at aq
 rw[aX]at aq
 simp only[DataW.lit.injEq,Lit.int.injEq,true_and]at aq
 rw[List.getD_eq_getElem?_getD,List.getElem?_eq_getElem (show i<xs.length by omega),Option.getD_some,aq]
 have aK:=congrArg (fun l:List Value=>l[0]?) aN
 simp only[List.getElem?_take,List.getElem?_drop,List.getElem?_cons_zero]at aK
 simpa using aK
end
end RV
namespace RV.Dr
open Go RV RR
set_option linter.unusedSimpArgs false
set_option linter.unusedVariables false
set_option maxRecDepth 100000
set_option maxHeartbeats 8000000
theorem aa6 {s:Bool} {r:Nat} (h1:4503599627370497≤r) (h2:r<9218868437227405311):jE (wd s r)=if s=true then wd true (r - 1)else wd false (r+1):=by
 have xQ:=gZ (s:=s) (r:=r) (by omega) (by omega)
 have v1:=jS (s:=s) (r:=r) (by omega) (by omega)
 have D1:=u0 r
 have aN:cW (wd s r) 0=false:=by
  rw[Bool.eq_false_iff];intro hf
  rw[IY xQ uU,yg,v1]at hf
  split at hf<;>grind
 unfold jE
 rw[aN]
 cases s
 ·have:wd false r<9223372036854775808:=by show r<_;omega
  rw[if_neg (by decide),if_pos this];rfl
 ·have:¬wd true r<9223372036854775808:=by show¬9223372036854775808+r<_;omega
  rw[if_neg (by decide),if_neg this]
  show 9223372036854775808+r - 1=9223372036854775808+(r - 1)
  omega
def pb (w:Nat):Nat:=hb (jE (hb w))
theorem amx {x:R} {w:Nat} (h:km x w):v3.pre [.flt w]∧v3.pre [.flt (hb w)]∧(Fin (jE w)∧jE w<18446744073709551616)∧(Fin (pb w)∧pb w<18446744073709551616)∧x+x≤dI w+dI (jE w)∧dI w+dI (pb w)≤x+x:=by
 rcases h with ⟨aj,rfl⟩|⟨s,r,y,jH,aj,rfl,h1,h2,hm⟩
 ·have aN:jE 0=1:=by decide
  have aX:hb 0=kF:=YI
  have cc:jE kF=1:=by decide
  have cN:pb 0=9223372036854775809:=by unfold pb;rw[aX,cc];decide
  have f1:Ieee.double.read 1= .number false 1 (-1074):=by decide
  have f2:Ieee.double.read 9223372036854775809= .number true 1 (-1074):=by decide
  have p:=c8 (-1074)
  have v1:dI 1=ax (-1074):=by unfold dI;rw[yy f1,ES];simp only[Bool.false_eq_true,if_false];rw[oN];grind
  have v2:dI 9223372036854775809= -ax (-1074):=by unfold dI;rw[yy f2,ES];simp only[if_true];rw[oN];grind
  rw[aN,aX,cN,v1,v2,yg]
  exact⟨⟨0,rfl,.inl rfl⟩,⟨kF,rfl,.inr (.inl rfl)⟩,⟨⟨_,_,_,f1⟩,by decide⟩,⟨⟨_,_,_,f2⟩,by decide⟩,by grind,by grind⟩
 ·have ew:=aa6 (s:=s) h1 h2
  have g:hb (wd s r)=wd (!s) r:=IZ (by omega) (by omega)
  have eN:=aa6 (s:= !s) h1 h2
  have cN:pb (wd s r)=if s=true then wd true (r+1)else wd false (r - 1):=by
   unfold pb;rw[g,eN]
   cases s
   ·exact IZ (s:=true) (r:=r - 1) (by omega) (by omega)
   ·exact IZ (s:=false) (r:=r+1) (by omega) (by omega)
  have v0:=jS (s:=s) (r:=r) (by omega) (by omega)
  refine⟨⟨_,rfl,.inr (.inr ⟨s,r,rfl,h1,h2⟩)⟩,⟨_,rfl,.inr (.inr ⟨!s,r,g,h1,h2⟩)⟩,?_⟩
  rw[ew,cN,v0]
  have e0:=hm.1
  have gw:=hm.2
  have HI:=fun t=>jS (s:=t) (r:=r - 1) (by omega) (by omega)
  have HJ:=fun t=>jS (s:=t) (r:=r+1) (by omega) (by omega)
  cases s
  ·simp only[Bool.false_eq_true,if_false]at aj⊢
   rw[HI,HJ]
   simp only[Bool.false_eq_true,if_false]
   exact⟨⟨gZ (by omega) (by omega),CW (by omega)⟩,⟨gZ (by omega) (by omega),CW (by omega)⟩,by grind,by grind⟩
  ·simp only[if_true]at aj⊢
   rw[HI,HJ]
   simp only[if_true]
   exact⟨⟨gZ (by omega) (by omega),CW (by omega)⟩,⟨gZ (by omega) (by omega),CW (by omega)⟩,by grind,by grind⟩
theorem ts {b:Bool} {a:Nat} (b4:a<1152921504606846976) (hH:a0 a≤14):qw.pre [.flt (bG b a)]:=by
 have h:=jR (b:=b) b4 hH
 obtain⟨⟨bM,aW⟩,-,-⟩:=CM (.inl h) (k7 b a)
 have o:=uT
 have ay1:Fin 4611686018427387904:=gZ (s:=false) (r:=4611686018427387904) (by decide) (by decide)
 have WL:Fin 13835058055282163712:=gZ (s:=true) (r:=4611686018427387904) (by decide) (by decide)
 have e:eI 4611686018427387904=1+1:=by
  have aN:hE 4611686018427387904=4503599627370496:=by decide
  have aX:iw 4611686018427387904= -51:=by decide
  unfold eI
  rw[aN,aX,show (4503599627370496:Nat)=2^52 by decide,iZ,←g7,show ((52:Nat):Int)+ -51=0+1 by rfl,fk];rfl
 have v2:dI 4611686018427387904=1+1:=by
  have:=jS (s:=false) (r:=4611686018427387904) (by decide) (by decide)
  rw[e]at this;exact this
 have WT:dI 13835058055282163712= -(1+1):=by
  have:=jS (s:=true) (r:=4611686018427387904) (by decide) (by decide)
  rw[e]at this;exact this
 refine⟨_,rfl,?_,?_⟩
 ·rw[apN h.fin WL,WT];grind
 ·rw[Se h.fin ay1,v2];grind
theorem apT {b:Bool} {a:Nat} (h:a<1152921504606846976) (aO:a0 a≤14):bc (fP b (dh a 200)).lo≤cF b a∧cF b a≤bc (fP b (dh a 200)).hi:=by
 have:=Nv (b:=b) (NI (a:=a) (n:=200) (j:=97) h (pI h aO) (by omega) (by omega))
 exact⟨this.1,this.2.1⟩
def fT (d:a8):List ag:=[.d (.bool d.neg),.d (.ints .i64 (au d.m)),.d (.int .i64 d.e)]
def kx (i:bQ):List ag:=[.d (.bool i.lo.neg),.d (.ints .i64 (au i.lo.m)),.d (.int .i64 i.lo.e),.d (.bool i.hi.neg),.d (.ints .i64 (au i.hi.m)),.d (.int .i64 i.hi.e)]
def HX:br where
 pre:=fun ds=>∃(K Q:Int) (b:Bool),ds=[.agg [.int .i64 K,.int .i64 Q],.bool b]
 res:=fun _=> .bool true
theorem WM (Γ:Env) (v5:Γ.has 42 hP) (qx:Γ.has 43 iy) (pk:Γ.has 44 dX) (pn:Γ.has 46 ed) (DQ:Γ.has 51 lI) (Lu:Γ.has 52 qw) (zb:Γ.has 53 ix) (aiq:Γ.has 54 v3) (Ae:Γ.has 56 gn) (PJ:Γ.has 55 rQ) (vV:Γ.has 57 gC) (ds:List D) (h:HX.pre ds):bK Γ LK HH ds fun d=>d=HX.res ds:=by
 obtain⟨cn,gg,b,rfl⟩:=h
 have bO:∀ds,HX.res ds= .bool true:=fun _=>rfl
 have xR:hP.pre []:=rfl
 have xS:hP.res []= .bool true:=rfl
 have qO:iy.pre [.agg [.int .i64 cn,.int .i64 gg]]:=⟨_,_,rfl⟩
 have rg:iy.res [.agg [.int .i64 cn,.int .i64 gg]]= .bool (jT [.int .i64 cn,.int .i64 gg]):=rfl
 rw[bO,gx]
 unfold LK HH
 refine bC (fun s=>s.af 1= .d (.bool b)∧bN s 2 [.d (.int .i64 cn),.d (.int .i64 gg)]) (by simp (maxSteps:=9^9) only[↓al,ak,simprocAttr,bN]) ?_
 rintro s ⟨h1,h2,aW⟩
 refine bC (fun s=>s.af 5= .d (.bool true)∧s.af 1= .d (.bool b)∧bN s 2 [.d (.int .i64 cn),.d (.int .i64 gg)]) (by simp (maxSteps:=9^9) only[↓al,ak,simprocAttr,h1,h2,aW,bN,v5,xR,xS]) ?_
 clear h1 h2 aW
 rintro s ⟨aG,h1,h2,aW⟩
 refine bC (fun s=>(jT [.int .i64 cn,.int .i64 gg])=true∧s.af 5= .d (.bool true)∧s.af 1= .d (.bool b)∧bN s 2 [.d (.int .i64 cn),.d (.int .i64 gg)]) ?_ ?_
 ·generalize (jT [.int .i64 cn,.int .i64 gg])=t at*
  cases t with
  |false=>simp (maxSteps:=9^9) only[↓al,ak,simprocAttr,aG,h1,h2,aW,bN,qx,qO,rg,Bool.not_false]
  |true=>simp (maxSteps:=9^9) only[↓al,ak,simprocAttr,aG,h1,h2,aW,bN,qx,qO,rg,Bool.not_true]
 clear aG h1 h2 aW qO rg
 rintro s ⟨bb,aG,h1,h2,aW⟩
 obtain⟨dt,rfl,D4,air,WN⟩:=Ew bb
 obtain⟨cz,h4⟩:∃a,a=an cn dt:=⟨_,rfl⟩
 have ko:cz<1152921504606846976:=h4▸ft _ _
 have h5:a0 cz≤14:=h4▸jd D4
 have fp:dX.pre [.agg [.int .i64 cn,.int .i64 dt]]:=⟨cn,dt,rfl,by omega,h4▸h5⟩
 have ey:dX.res [.agg [.int .i64 cn,.int .i64 dt]]= .flt (bG false cz):=by simp only[dX,Int.toNat_natCast,←h4]
 have qL:ed.pre [.agg [.int .i64 cn,.int .i64 dt]]:=⟨cn,dt,rfl,by omega,h4▸h5⟩
 have qM:ed.res [.agg [.int .i64 cn,.int .i64 dt]]= .flt (bG true cz):=by simp only[ed,Int.toNat_natCast,←h4]
 have ta:lI.pre [.agg [.int .i64 cn,.int .i64 dt],.int .i64 200]:=⟨cn,dt,200,rfl,by omega,air,h4▸h5,by omega,by omega⟩
 have r3:lI.res [.agg [.int .i64 cn,.int .i64 dt],.int .i64 200]=iB (dh cz 200):=by simp only[lI,Int.toNat_natCast,←h4]
 have qN:=apT (b:=b) ko h5
 have ww:=aao (b:=b) (w:=200) ko h5 (by omega) (by omega)
 have WU:=jR (b:=b) ko h5
 have jJ:=ts (b:=b) ko h5
 have hT:qw.res [.flt (bG b cz)]= .bool true:=rfl
 obtain⟨axh,axi,⟨ais,ait⟩,⟨aiu,aiv⟩,bu,bs⟩:=amx WU
 have ajz:=WU.fin
 have eU:=WU.lt
 have axj:ix.pre [.flt (bG b cz)]:=⟨_,rfl,ajz,eU⟩
 have axk:ix.res [.flt (bG b cz)]= .du [aV (dm (bG b cz)),.bool true]:=rfl
 have V2:ix.pre [.flt (jE (bG b cz))]:=⟨_,rfl,ais,ait⟩
 have V3:ix.res [.flt (jE (bG b cz))]= .du [aV (dm (jE (bG b cz))),.bool true]:=rfl
 have V4:ix.pre [.flt (pb (bG b cz))]:=⟨_,rfl,aiu,aiv⟩
 have V5:ix.res [.flt (pb (bG b cz))]= .du [aV (dm (pb (bG b cz))),.bool true]:=rfl
 have axl:v3.res [.flt (bG b cz)]= .flt (jE (bG b cz)):=rfl
 have axm:v3.res [.flt (hb (bG b cz))]= .flt (jE (hb (bG b cz))):=rfl
 have Cm:hb (jE (hb (bG b cz)))=pb (bG b cz):=rfl
 have aR:=tB ajz eU
 have cf:=tB ais ait
 have cP:=tB aiu aiv
 unfold dI at bu bs
 generalize dm (bG b cz)=X at*
 generalize dm (jE (bG b cz))=Y at*
 generalize dm (pb (bG b cz))=Z at*
 have Lv:gn.pre [aV X,aV Y]:=⟨X,Y,rfl,win.up aR (by omega) (by omega),win.up cf (by omega) (by omega)⟩
 have Lw:gn.res [aV X,aV Y]=aV (dW X Y):=by simp only[gn,aV,aZ,ck]
 have Lx:gn.pre [aV X,aV Z]:=⟨X,Z,rfl,win.up aR (by omega) (by omega),win.up cP (by omega) (by omega)⟩
 have Ly:gn.res [aV X,aV Z]=aV (dW X Z):=by simp only[gn,aV,aZ,ck]
 have Lz:=uQ aR cf
 have P1:=uQ aR cP
 have P2:=si X Y
 have P3:=si X Z
 generalize dW X Y=pB at*
 generalize dW X Z=AE at*
 have axn:rQ.pre [aV pB,.int .i64 (-1)]:=⟨pB,-1,rfl,win.up Lz (by omega) (by omega),by omega,by omega⟩
 have axo:rQ.res [aV pB,.int .i64 (-1)]=aV (gi pB (-1)):=by simp only[rQ,aV,aZ,ck]
 have axp:rQ.pre [aV AE,.int .i64 (-1)]:=⟨AE,-1,rfl,win.up P1 (by omega) (by omega),by omega,by omega⟩
 have axq:rQ.res [aV AE,.int .i64 (-1)]=aV (gi AE (-1)):=by simp only[rQ,aV,aZ,ck]
 have axr:=Ii (k:= -1) Lz
 have axs:=Ii (k:= -1) P1
 have LA:=CD pB (-1)
 have V6:=CD AE (-1)
 generalize gi pB (-1)=H at*
 generalize gi AE (-1)=L at*
 obtain⟨I,eP⟩:∃I,I=fP b (dh cz 200):=⟨_,rfl⟩
 rw[←eP]at qN ww
 have aX:(1:R)=ax (-1)+ax (-1):=by rw[←fk];rfl
 have p1:=c8 (-1)
 have dP:e4 I.lo H≤0:=by
  rw[vd,LA,P2]
  have m:=b0 (show 0≤bc X+bc Y - (cF b cz+cF b cz)by grind) (show 0≤ax (-1)by grind)
  have:(cF b cz+cF b cz)*ax (-1)=cF b cz:=by
   rw[show (cF b cz+cF b cz)*ax (-1)=cF b cz*(ax (-1)+ax (-1))by grind,←aX];grind
  grind
 have fw:e4 I.hi L≥0:=by
  have q:¬e4 I.hi L<0:=by
   rw[SY,V6,P3]
   have m:=b0 (show 0≤(cF b cz+cF b cz) - (bc X+bc Z)by grind) (show 0≤ax (-1)by grind)
   have:(cF b cz+cF b cz)*ax (-1)=cF b cz:=by
    rw[show (cF b cz+cF b cz)*ax (-1)=cF b cz*(ax (-1)+ax (-1))by grind,←aX];grind
   grind
  omega
 have Al:gC.pre [aV I.lo,aV H]:=⟨_,_,rfl,win.up ww.1 (by omega) (by omega),win.up axr (by omega) (by omega)⟩
 have Am:gC.res [aV I.lo,aV H]= .int .i64 (e4 I.lo H):=by simp only[gC,aV,aZ,ck]
 have LB:gC.pre [aV I.hi,aV L]:=⟨_,_,rfl,win.up ww.2 (by omega) (by omega),win.up axs (by omega) (by omega)⟩
 have LC:gC.res [aV I.hi,aV L]= .int .i64 (e4 I.hi L):=by simp only[gC,aV,aZ,ck]
 generalize e4 I.lo H=bR at*
 generalize e4 I.hi L=bS at*
 generalize dh cz 200=P at*
 unfold iB a2 aZ at r3
 unfold aV aZ at*
 refine bC (fun s=>s.af 6= .d (.flt (bG false cz))∧s.af 5= .d (.bool true)∧s.af 1= .d (.bool b)∧bN s 2 [.d (.int .i64 cn),.d (.int .i64 dt)]) (by simp (maxSteps:=9^9) only[↓al,ak,simprocAttr,aG,h1,h2,aW,bN,pk,fp,ey]) ?_
 clear aG h1 h2 aW
 rintro s ⟨aM,aG,h1,h2,aW⟩
 refine bC (fun s=>s.af 6= .d (.flt (bG false cz))∧s.af 5= .d (.bool true)∧s.af 1= .d (.bool b)∧bN s 2 [.d (.int .i64 cn),.d (.int .i64 dt)]∧bN s 7 (kx P.c)∧bN s 8 (kx P.s)) (by simp (maxSteps:=9^9) only[↓al,ak,simprocAttr,aM,aG,h1,h2,aW,bN,kx,DQ,ta,r3]) ?_
 clear aM aG h1 h2 aW
 rintro s ⟨aM,aG,h1,⟨h2,aW⟩,⟨aS,b6⟩,bn,bZ⟩
 refine bC (fun s=>s.af 6= .d (.flt (bG b cz))∧s.af 5= .d (.bool true)∧bN s 7 (kx I)) ?_ ?_
 ·cases b with
  |false=>
   have eP:I=P.c:=eP
   subst eP
   simp (maxSteps:=9^9) only[↓al,ak,simprocAttr,aM,aG,h1,h2,aW,aS,b6,bn,bZ,bN,kx]
  |true=>
   have eP:I=P.s:=eP
   subst eP
   unfold kx at bZ b6
   simp (maxSteps:=9^9) only[↓al,ak,simprocAttr,aM,aG,h1,h2,aW,aS,b6,bn,bZ,bN,kx,pn,qL,qM]
 clear aM aG h1 h2 aW aS b6 bn bZ fp ey qL qM ta r3
 rintro s ⟨aM,aG,aS,b6⟩
 generalize bG b cz=wf at*
 generalize pb wf=aAE at*
 generalize jE wf=wn at*
 generalize axt:hb wf=WS at*
 generalize jE WS=aAc at*
 refine bC (fun s=>s.af 6= .d (.flt wf)∧s.af 5= .d (.bool true)∧bN s 7 (kx I)) (by simp (maxSteps:=9^9) only[↓al,ak,simprocAttr,aM,aG,aS,b6,bN,kx,Lu,jJ,hT,Bool.not_true]) ?_
 clear aM aG aS b6
 rintro s ⟨aM,aG,aS,b6⟩
 refine bC (fun s=>s.af 6= .d (.flt wf)∧s.af 5= .d (.bool true)∧bN s 7 (kx I)∧bN s 9 (fT X)) (by simp (maxSteps:=9^9) only[↓al,ak,simprocAttr,aM,aG,aS,b6,bN,fT,kx,zb,axj,axk]) ?_
 clear aM aG aS b6
 rintro s ⟨aM,aG,⟨aS,b6⟩,bH,cD⟩
 refine bC (fun s=>s.af 6= .d (.flt wf)∧s.af 5= .d (.bool true)∧bN s 7 (kx I)∧bN s 9 (fT X)∧bN s 11 (fT Y)) (by simp (maxSteps:=9^9) only[↓al,ak,simprocAttr,aM,aG,aS,b6,bH,cD,bN,fT,kx,aiq,axh,axl,zb,V2,V3]) ?_
 clear aM aG aS b6 bH cD
 rintro s ⟨aM,aG,⟨aS,b6⟩,⟨bH,cD⟩,cv,g3⟩
 refine bC (fun s=>s.af 5= .d (.bool true)∧bN s 7 (kx I)∧bN s 9 (fT X)∧bN s 11 (fT Y)∧bN s 13 (fT Z)) (by simp (maxSteps:=9^9) only[↓al,ak,simprocAttr,aM,aG,aS,b6,bH,cD,cv,g3,bN,fT,kx,axt,aiq,axi,axm,Cm,zb,V4,V5]) ?_
 clear aM aG aS b6 bH cD cv g3
 rintro s ⟨aG,⟨aS,b6⟩,⟨bH,cD⟩,⟨cv,g3⟩,dn,jA⟩
 refine bC (fun s=>s.af 5= .d (.bool true)∧bN s 7 (kx I)∧bN s 9 (fT X)∧bN s 13 (fT Z)∧bN s 15 (fT H)) (by simp (maxSteps:=9^9) only[↓al,ak,simprocAttr,aG,aS,b6,bH,cD,cv,g3,dn,jA,bN,fT,kx,Ae,Lv,Lw,PJ,axn,axo]) ?_
 clear aG aS b6 bH cD cv g3 dn jA
 rintro s ⟨aG,⟨aS,b6⟩,⟨bH,cD⟩,⟨dn,jA⟩,jf,kU⟩
 refine bC (fun s=>s.af 5= .d (.bool true)∧bN s 7 (kx I)∧bN s 15 (fT H)∧bN s 16 (fT L)) (by simp (maxSteps:=9^9) only[↓al,ak,simprocAttr,aG,aS,b6,bH,cD,dn,jA,jf,kU,bN,fT,kx,Ae,Lx,Ly,PJ,axp,axq]) ?_
 clear aG aS b6 bH cD dn jA jf kU
 rintro s ⟨aG,⟨aS,b6⟩,⟨jf,kU⟩,uz,iO⟩
 simp (maxSteps:=9^9) only[↓al,ak,simprocAttr,aG,aS,b6,jf,kU,uz,iO,fT,kx,vV,Al,Am,dP,LB,LC,fw]
 try trivial
end RV.Dr
namespace RV.Dr
open Go RV RR
set_option linter.unusedSimpArgs false
set_option linter.unusedVariables false
set_option maxRecDepth 100000
set_option maxHeartbeats 8000000
theorem A2 {x:R} {w:Nat} (h:ht x w) (aj: -1≤x∧x≤1):dI w≤x+ax (-54)∧x≤dI w+ax (-54):=by
 have p:=c8 (-54)
 have o:=uT
 rcases h with (⟨aj,rfl⟩|⟨s,r,y,jH,hy,rfl,h1,h2,hm⟩)|⟨aj,rfl⟩
 ·rw[yg];grind
 ·have gW:y≤1:=by split at hy<;>grind
  have AB:=X7 h1 hm gW
  have v:=jS (s:=s) (r:=r) (by omega) (by omega)
  have key:eI r≤y+ax (-54)∧y≤eI r+ax (-54):=by
   have up:∀t,4503599627370496≤t→t<4607182418800017408→eI (t+1)≤eI t+ax (-53):=by
    intro t ae axu
    have e:=M5 ae
    have q:iw t≤-53:=by
     unfold iw
     have:t / 4503599627370496<1023:=(Nat.div_lt_iff_lt_mul (by decide)).2 axu
     omega
    have l:=iG q
    rw[e]
    unfold eI
    grind
   have aAd:ax (-53)=ax (-54)+ax (-54):=by rw[←fk];rfl
   have d1:=up (r - 1) (by omega) (by omega)
   rw[show r - 1+1=r by omega]at d1
   have e0:=hm.1
   have gw:=hm.2
   by_cases c:r=4607182418800017408
   ·subst c
    have:=M7
    constructor<;>grind
   ·have d2:=up r (by omega) (by omega)
    constructor<;>grind
  rw[v]
  cases s
  ·simp only[Bool.false_eq_true,if_false]at hy⊢;rw[hy];exact key
  ·simp only[if_true]at hy⊢;rw[hy];constructor<;>grind
 ·have WO:dI kF=0:=by
   unfold dI
   rw[yy (w:=kF) (s:=true) (m:=0) (e:= -1074) (by decide)]
   exact IU (by decide)
  rw[WO];grind
theorem YO {u t e:R} (h: -1≤u∧u≤1) (k:t≤e) (cX: -t≤e):u*t≤e∧-(u*t)≤e:=by
 have a:=b0 (show 0≤1 - u by grind) (show 0≤e+t by grind)
 have b:=b0 (show 0≤1+u by grind) (show 0≤e - t by grind)
 have c:=b0 (show 0≤1 - u by grind) (show 0≤e - t by grind)
 have d:=b0 (show 0≤1+u by grind) (show 0≤e+t by grind)
 have a6:(1 - u)*(e+t)=e+t - u*e - u*t:=by grind
 have aw:(1+u)*(e - t)=e - t+u*e - u*t:=by grind
 have ay:(1 - u)*(e - t)=e - t - u*e+u*t:=by grind
 have aD:(1+u)*(e+t)=e+t+u*e+u*t:=by grind
 rw[a6]at a
 rw[aw]at b
 rw[ay]at c
 rw[aD]at d
 generalize u*t=p at*
 generalize u*e=q at*
 have s1:0≤(e - p)+(e - p):=by grind
 have s2:0≤(e+p)+(e+p):=by grind
 constructor<;>grind
theorem Ey {u pq v cR e:R} (hu: -1≤u∧u≤1) (aB: -1≤cR∧cR≤1) (a:u≤pq+e∧pq≤u+e) (b:v≤cR+e∧cR≤v+e):u*v≤pq*cR+e+e∧pq*cR≤u*v+e+e:=by
 have m:=YO (u:=u) (t:=v - cR) (e:=e) hu (by grind) (by grind)
 have n:=YO (u:=cR) (t:=u - pq) (e:=e) aB (by grind) (by grind)
 have h1:u*v=pq*cR+u*(v - cR)+cR*(u - pq):=by grind
 generalize u*(v - cR)=p at*
 generalize cR*(u - pq)=q at*
 rw[h1]
 constructor<;>grind
def kp (d:a8):a8:=⟨false,d.m,d.e⟩
theorem RJ {lo hi:Int} {d:a8} (h:d.win lo hi):(kp d).win lo hi:=⟨⟨fun h0=>⟨rfl,(h.1.1 h0).2⟩,h.1.2⟩,h.2⟩
theorem Si {d:a8} {B:R} (a:bc d≤B) (b: -B≤bc d):bc (kp d)≤B:=by
 have e:bc (kp d)=kO d:=by rw[Jg];rfl
 rw[e]
 rw[Jg]at a b
 split at a<;>grind
theorem arF (a:Nat):cF false a*cF false a+cF true a*cF true a=1:=by
 have:=NB a
 unfold bD.jg at this
 exact this
def HY:br where
 pre:=fun ds=>∃K Q:Int,ds=[.agg [.int .i64 K,.int .i64 Q]]
 res:=fun _=> .bool true
theorem ay2 (Γ:Env) (v5:Γ.has 42 hP) (qx:Γ.has 43 iy) (pk:Γ.has 44 dX) (pn:Γ.has 46 ed) (Lu:Γ.has 52 qw) (zb:Γ.has 53 ix) (Hk:Γ.has 58 jz) (Ae:Γ.has 56 gn) (DP:Γ.has 59 iN) (vV:Γ.has 57 gC) (ds:List D) (h:HY.pre ds):bK Γ ajg ajh ds fun d=>d=HY.res ds:=by
 obtain⟨cn,gg,rfl⟩:=h
 have bO:∀ds,HY.res ds= .bool true:=fun _=>rfl
 have xR:hP.pre []:=rfl
 have xS:hP.res []= .bool true:=rfl
 have qO:iy.pre [.agg [.int .i64 cn,.int .i64 gg]]:=⟨_,_,rfl⟩
 have rg:iy.res [.agg [.int .i64 cn,.int .i64 gg]]= .bool (jT [.int .i64 cn,.int .i64 gg]):=rfl
 rw[bO,gx]
 unfold ajg ajh
 refine bC (fun s=>bN s 1 [.d (.int .i64 cn),.d (.int .i64 gg)]) (by simp (maxSteps:=9^9) only[↓al,ak,simprocAttr,bN]) ?_
 rintro s ⟨h1,bM⟩
 refine bC (fun s=>s.af 3= .d (.bool true)∧bN s 1 [.d (.int .i64 cn),.d (.int .i64 gg)]) (by simp (maxSteps:=9^9) only[↓al,ak,simprocAttr,h1,bM,bN,v5,xR,xS]) ?_
 clear h1 bM
 rintro s ⟨aq,h1,bM⟩
 refine bC (fun s=>(jT [.int .i64 cn,.int .i64 gg])=true∧s.af 3= .d (.bool true)∧bN s 1 [.d (.int .i64 cn),.d (.int .i64 gg)]) ?_ ?_
 ·generalize (jT [.int .i64 cn,.int .i64 gg])=t at*
  cases t with
  |false=>simp (maxSteps:=9^9) only[↓al,ak,simprocAttr,aq,h1,bM,bN,qx,qO,rg,Bool.not_false]
  |true=>simp (maxSteps:=9^9) only[↓al,ak,simprocAttr,aq,h1,bM,bN,qx,qO,rg,Bool.not_true]
 clear aq h1 bM qO rg
 rintro s ⟨bb,aq,h1,bM⟩
 obtain⟨dt,rfl,D4,air,WN⟩:=Ew bb
 obtain⟨cz,h4⟩:∃a,a=an cn dt:=⟨_,rfl⟩
 have ko:cz<1152921504606846976:=h4▸ft _ _
 have h5:a0 cz≤14:=h4▸jd D4
 have fp:dX.pre [.agg [.int .i64 cn,.int .i64 dt]]:=⟨cn,dt,rfl,by omega,h4▸h5⟩
 have ey:dX.res [.agg [.int .i64 cn,.int .i64 dt]]= .flt (bG false cz):=by simp only[dX,Int.toNat_natCast,←h4]
 have qL:ed.pre [.agg [.int .i64 cn,.int .i64 dt]]:=⟨cn,dt,rfl,by omega,h4▸h5⟩
 have qM:ed.res [.agg [.int .i64 cn,.int .i64 dt]]= .flt (bG true cz):=by simp only[ed,Int.toNat_natCast,←h4]
 have zp:=jR (b:=false) ko h5
 have fs:=jR (b:=true) ko h5
 have axv:=ts (b:=false) ko h5
 have axw:=ts (b:=true) ko h5
 have axx:qw.res [.flt (bG false cz)]= .bool true:=rfl
 have axy:qw.res [.flt (bG true cz)]= .bool true:=rfl
 have V2:ix.pre [.flt (bG false cz)]:=⟨_,rfl,zp.fin,zp.lt⟩
 have V3:ix.res [.flt (bG false cz)]= .du [aV (dm (bG false cz)),.bool true]:=rfl
 have V4:ix.pre [.flt (bG true cz)]:=⟨_,rfl,fs.fin,fs.lt⟩
 have V5:ix.res [.flt (bG true cz)]= .du [aV (dm (bG true cz)),.bool true]:=rfl
 have Qk:=tB zp.fin zp.lt
 have Ql:=tB fs.fin fs.lt
 have qH:=A2 (.inl zp) (k7 false cz)
 have es:=A2 (.inl fs) (k7 true cz)
 have uI:=(CM (.inl zp) (k7 false cz)).1
 have At:=(CM (.inl fs) (k7 true cz)).1
 have aiw:=Ey uI (k7 false cz) qH qH
 have aix:=Ey At (k7 true cz) es es
 have one:=arF cz
 unfold dI at aiw aix
 generalize dm (bG false cz)=X at*
 generalize dm (bG true cz)=Y at*
 generalize bG false cz=r8 at*
 generalize bG true cz=ws at*
 have axz:jz.pre [aV X,aV X]:=⟨X,X,rfl,win.up Qk (by omega) (by omega),win.up Qk (by omega) (by omega)⟩
 have axA:jz.res [aV X,aV X]=aV (cV X X):=by simp only[jz,aV,aZ,ck]
 have axB:jz.pre [aV Y,aV Y]:=⟨Y,Y,rfl,win.up Ql (by omega) (by omega),win.up Ql (by omega) (by omega)⟩
 have axC:jz.res [aV Y,aV Y]=aV (cV Y Y):=by simp only[jz,aV,aZ,ck]
 have aiy:=uR Qk Qk
 have aiz:=uR Ql Ql
 have aiA:=A9 X X
 have aiB:=A9 Y Y
 generalize cV X X=A at*
 generalize cV Y Y=B at*
 have Lv:gn.pre [aV A,aV B]:=⟨A,B,rfl,win.up aiy (by omega) (by omega),win.up aiz (by omega) (by omega)⟩
 have Lw:gn.res [aV A,aV B]=aV (dW A B):=by simp only[gn,aV,aZ,ck]
 have Lz:=uQ aiy aiz
 have P2:=si A B
 generalize dW A B=pB at*
 have pm:iN.pre [.int .i64 (-1)]:=⟨-1,rfl,by omega,by omega⟩
 obtain⟨oy,Ak⟩:∃o,o=mk true 1 0:=⟨_,rfl⟩
 have r2:iN.res [.int .i64 (-1)]=aV oy:=by rw[Ak];rfl
 have aiC:oy.win (-1074+ -1074) (1100+1100+1):=by rw[Ak];exact sf (fun _=>by decide)
 have aiD:bc oy= -1:=by rw[Ak,ES];simp only[if_true];rw[oN,uY];grind
 have Lx:gn.pre [aV pB,aV oy]:=⟨pB,oy,rfl,win.up Lz (by omega) (by omega),win.up aiC (by omega) (by omega)⟩
 have Ly:gn.res [aV pB,aV oy]=aV (dW pB oy):=by simp only[gn,aV,aZ,ck]
 have P1:=uQ Lz aiC
 have P3:=si pB oy
 generalize dW pB oy=T at*
 have cI:au 1=[1]:=by decide+kernel
 have Al:gC.pre [aV (kp T),aV (fq (-51))]:=⟨_,_,rfl,win.up (RJ P1) (by omega) (by omega),by unfold fq;exact⟨⟨fun h=>absurd h (by decide),fun _=>by decide⟩,fun _=>by decide⟩⟩
 have Am:gC.res [aV (kp T),aV (fq (-51))]= .int .i64 (e4 (kp T) (fq (-51))):=by simp only[gC,aV,aZ,ck]
 have dP:e4 (kp T) (fq (-51))≤0:=by
  rw[vd,N1]
  have aN:ax (-51)=ax (-52)+ax (-52):=by rw[←fk];rfl
  have aX:ax (-52)=ax (-53)+ax (-53):=by rw[←fk];rfl
  have cc:ax (-53)=ax (-54)+ax (-54):=by rw[←fk];rfl
  have VW:=c8 (-54)
  refine Si ?_ ?_
  ·rw[P3,P2,aiA,aiB,aiD];grind
  ·rw[P3,P2,aiA,aiB,aiD];grind
 generalize e4 (kp T) (fq (-51))=bR at*
 clear Ak h4 one aiw aix qH es uI At zp fs
 unfold kp fq at Al Am
 unfold aV aZ at*
 simp only[cI]at Al Am
 refine bC (fun s=>s.af 3= .d (.bool true)∧s.af 4= .d (.flt r8)∧bN s 1 [.d (.int .i64 cn),.d (.int .i64 dt)]) (by simp (maxSteps:=9^9) only[↓al,ak,simprocAttr,aq,h1,bM,bN,pk,fp,ey]) ?_
 clear aq h1 bM
 rintro s ⟨aq,aK,h1,bM⟩
 refine bC (fun s=>s.af 3= .d (.bool true)∧s.af 4= .d (.flt r8)∧s.af 5= .d (.flt ws)) (by simp (maxSteps:=9^9) only[↓al,ak,simprocAttr,aq,aK,h1,bM,bN,pn,qL,qM]) ?_
 clear aq aK h1 bM
 rintro s ⟨aq,aK,aG⟩
 refine bC (fun s=>s.af 3= .d (.bool true)∧s.af 4= .d (.flt r8)∧s.af 5= .d (.flt ws)) (by simp (maxSteps:=9^9) only[↓al,ak,simprocAttr,aq,aK,aG,Lu,axv,axx,axw,axy,Bool.not_true]) ?_
 clear aq aK aG
 rintro s ⟨aq,aK,aG⟩
 refine bC (fun s=>s.af 3= .d (.bool true)∧s.af 5= .d (.flt ws)∧bN s 6 (fT X)) (by simp (maxSteps:=9^9) only[↓al,ak,simprocAttr,aq,aK,aG,bN,fT,zb,V2,V3]) ?_
 clear aq aK aG
 rintro s ⟨aq,aG,aM,aY⟩
 refine bC (fun s=>s.af 3= .d (.bool true)∧bN s 6 (fT X)∧bN s 8 (fT Y)) (by simp (maxSteps:=9^9) only[↓al,ak,simprocAttr,aq,aG,aM,aY,bN,fT,zb,V4,V5]) ?_
 clear aq aG aM aY
 rintro s ⟨aq,⟨aM,aY⟩,bn,bZ⟩
 unfold fT at aY bZ
 refine bC (fun s=>s.af 3= .d (.bool true)∧bN s 10 (fT T)) (by simp (maxSteps:=2000000) only[↓al,ak,↓reduceIte,reduceCtorEq,Nat.reduceEqDiff,Nat.reduceLeDiff,Nat.reduceSub,Nat.reduceAdd,Int.reduceToNat,Nat.reducePow,Int.reducePow,Int.reduceLE,Int.reduceLT,IntKind.bits,aq,aM,aY,bn,bZ,bN,fT,Hk,axz,axA,axB,axC,Ae,Lv,Lw,DP,pm,r2,Lx,Ly];decide) ?_
 clear aq aM aY bn bZ
 rintro s ⟨aq,bI,fv⟩
 unfold fT at fv
 refine bC (fun s=>s.af 3= .d (.bool true)∧bN s 10 [.d (.bool false),.d (.ints .i64 (au T.m)),.d (.int .i64 T.e)]) (by simp (maxSteps:=9^9) only[↓al,ak,simprocAttr,aq,bI,fv,bN]) ?_
 clear aq bI fv
 rintro s ⟨aq,bI,fv⟩
 simp (maxSteps:=9^9) only[↓al,ak,simprocAttr,aq,bI,fv,vV,Al,Am,dP]
 try trivial
end RV.Dr
