/- Lemmas for a claim: an abstract machine for the translated code, proved sound, and contracts of functions. By an AI agent. -/
import Derived.Test.YtfnabehbkmlofaaGreatDoorRc
import Derived.RangeFuncSeq
import Derived.ScopeJumps
import Derived.Test.YtfnabehbkmlofaaGreatDoorProg
set_option linter.all false
namespace RV
open Go Go.RowKit
structure k0 where
 pre:List D→Prop
 seq:List D→Nat→Option (List D)
structure C2 (p:Nat→Option Obj) (w:World) (dx:Nat→Option Obj) (w':World):Prop where
 os:w'.os=w.os
 tape:w'.tape=w.tape
 output:w'.output=w.output
 size:w.heap.size≤w'.heap.size
 block:∀k,k<w.heap.size→p k=none→w'.heap[k]? =w.heap[k]?
 pb:∀k o,dx k=some o→w'.heap[k]? =some o∧(∃c t cx,o= .cells c t cx)∧(p k=none→w.heap.size≤k)
def UP:Nat→Option Obj:=fun _=>none
def afh (P:Program) (B:Mem) (f:Nat) (C:k0):Prop:=
 A5 P f∧∀ds,C.pre ds→∀(w:World) (rd:Mem) (dJ:Array Value) (l M:Nat) (J:Nat→(Nat→Option Obj)→Mem→World→Prop) (Jx:(Nat→Option Obj)→World→Prop),
  b3 B rd→b3 rd w.cell?→bP rd ds dJ.toList→0<M→J 0 UP rd w→
  (∀k p m cf dx eg cP,J k p m cf→C2 p cf dx cP→b3 m eg→b3 eg cP.cell?→(∀aP v,eg aP=some v→aP.block<cf.heap.size→m aP=some v)→(∀aP v,eg aP=some v→dx aP.block=none)→J k dx eg cP)→
  (∀p cf dx cP,Jx p cf→C2 p cf dx cP→Jx dx cP)→
  (∀k p m cf x (vs:Array Value),k<M→C.seq ds k=some x→J k p m cf→bP m x vs.toList→∀n,YieldAt (hR none) n P l vs cf fun e cP=>
   b3 m cP.cell?∧(∀b o,p b=some o→cP.heap[b]? =some o)∧((e= .returned (.bool true)∧J (k+1) p m cP∧k+1<M)∨(e= .returned (.bool false)∧Jx p cP)))→
  Calls P f (#[.func (.yield l) #[] #[]]++dJ) w fun e w'=>∃v,e= .returned v∧((∃k p m,C.seq ds k=none∧J k p m w')∨∃p,Jx p w')
def ag.iI (σ:St) (i:Nat):ag→ag
 | .own j lo n=>if j=i then (match toD σ (.own j lo n)with|some x=>c3 x|none=> .any)else .own j lo n
 | .box j o=>if j=i then (match toD σ (.box j o)with|some x=>c3 x|none=> .any)else .box j o
 |v=>if v.has i=true then .any else v
def St.iI (σ:St) (i:Nat):St:=⟨fun t=>(σ.af t).iI σ i,fun j=>if j=i then none else (σ.aA j).map (cm.gK (ag.iI σ i))⟩
def asf (σ:St) (K:St→Prop):Option Nat→Prop
 |none=>K σ
 |some i=>(∃b,σ.aA i=some b∧b.ext=false)∧K (σ.iI i)
section
variable {N:Nat} {aR:e3} {aL:Mem} {R:bU} {σ:St} {a:Act} {w:World} {rd:Mem} {β:bU}
theorem bd.iI (h:bd N aR aL R σ a w rd β) {i:Nat} {b:cm} (aw:σ.aA i=some b) (he:b.ext=false):
 bd N aR aL R (σ.iI i) a w (plus w (fun aP=>∃r,β i=some r∧r.has aP) rd) (fN β i none):=by
 have hle:=oM w (fun aP=>∃r,β i=some r∧r.has aP) rd
 have I7:∀v u,v.has i=false→aT rd β v u→aT (plus w (fun aP=>∃r,β i=some r∧r.has aP) rd) (fN β i none) v u:=fun v u aB H=>
  aT.congr v u (fun j aF=>by
   have:j≠i:=fun e=>by subst e;rw[aB]at aF;cases aF
   simp[fN,this]) (aT.mono hle v u H)
 have tD:∀v u d,(∀j,v.has j=true→j=i)→toD σ v=some d→aT rd β v u→aT (plus w (fun aP=>∃r,β i=some r∧r.has aP) rd) (fN β i none) (c3 d) u:=fun v u d aB aD H=>
  pG (toD_rep h v u d aD H fun j r aP aF ar a6=>by
   have:=aB j aF;subst this
   exact⟨r,ar,a6⟩)
 have Tc:∀u,aT (plus w (fun aP=>∃r,β i=some r∧r.has aP) rd) (fN β i none) .any u:=fun u=>by simp only[aT]
 have hf:∀x v,aT rd β x v→aT (plus w (fun aP=>∃r,β i=some r∧r.has aP) rd) (fN β i none) (x.iI σ i) v:=fun x v H=>by
  cases x with
  |own j lo n=>
   simp only[ag.iI]
   split
   ·rename_i e
    subst e
    split
    ·rename_i d aD
     exact tD _ _ _ (fun k ad=>by simp only[ag.has,beq_iff_eq]at ad;exact ad.symm) aD H
    ·exact Tc v
   ·rename_i e
    exact I7 _ _ (by simpa [ag.has]using e) H
  |box j o=>
   simp only[ag.iI]
   split
   ·rename_i e
    subst e
    split
    ·rename_i d aD
     exact tD _ _ _ (fun k ad=>by simp only[ag.has,beq_iff_eq]at ad;exact ad.symm) aD H
    ·exact Tc v
   ·rename_i e
    exact I7 _ _ (by simpa [ag.has]using e) H
  |_=>
   simp only[ag.iI]
   split
   ·exact Tc v
   ·rename_i e
    exact I7 _ _ (by simpa using e) H
 have Fg:∀{k:Nat} {r:cY},k≠i→β k=some r→∀aP,r.has aP→plus w (fun aP=>∃r,β i=some r∧r.has aP) rd aP=rd aP:=fun {k r} ad ar aP a6=>x9 (by
  rintro⟨r',ec,uw⟩
  exact h.eE k i r r' ad ar ec aP a6 uw)
 have JG:∀{k:Nat} {r:cY},k≠i→fN β i none k=some r→β k=some r:=fun {k r} ad ar=>by simpa [fN,ad]using ar
 have sH:∀{k:Nat} {r:cY},fN β i none k=some r→k≠i:=fun {k r} ar e=>by subst e;rw[tk]at ar;cases ar
 exact {
  size:=h.size
  defers:=h.defers
  cO:=h.cO
  dH:=fun k o ad=>⟨(h.dH k o ad).1.to (fun aP v e aw=>by
   by_cases aE:∃r,β i=some r∧r.has aP
   ·obtain⟨r,ar,a6⟩:=aE
    exact .inr ⟨i,r,ar,by rw[←aw];exact a6.1.symm⟩
   ·rw[x9 aE]at e;exact .inl e) (fun j r' aF e=>⟨j,r',JG (sH aF) aF,e⟩),(h.dH k o ad).2⟩
  dg:=yd h.dg
  dR:=h.dR.trans hle
  aL:=fun aP v e aH=>by
   by_cases aE:∃r,β i=some r∧r.has aP
   ·obtain⟨r,ar,a6⟩:=aE
    obtain⟨fm,aj,_,_,h1,_⟩:=h.box i r ar
    rw[aw]at aj;simp only[Option.some.injEq]at aj;subst aj
    have:=(h1 he).1
    have:=a6.1
    omega
   ·rw[x9 aE]at e;exact h.aL aP v e aH
  eR:=fun k r fm ad aj bp aP a6=>by
   have rL:=sH ad
   have ux:=JG rL ad
   rw[Fg rL ux aP a6]
   simp only[St.iI,if_neg rL]at aj
   obtain⟨cK,h0,_⟩:=h.box k r ux
   rw[h0]at aj
   simp only[Option.map_some,Option.some.injEq]at aj
   subst aj
   exact h.eR k r cK ux h0 bp aP a6
  eX:=fun t=>hf _ _ (h.eX t)
  box:=fun k r ad=>by
   have rL:=sH ad
   have ux:=JG rL ad
   obtain⟨cK,h0,dO,eF,h1,h2⟩:=h.box k r ux
   refine⟨cK.gK (ag.iI σ i),by simp only[St.iI,if_neg rL,h0];rfl,?_,eF.congr (Ec _ _),h1,h2⟩
   have hm:e7 w (plus w (fun aP=>∃r,β i=some r∧r.has aP) rd) (fN β i none) r (cK.c.gK (ag.iI σ i)):=by
    cases gO:cK.c with
    |cells cs=>
     rw[gO]at dO
     refine⟨by simpa [BC.gK]using dO.1,?_⟩
     have key:∀{cs:List ag} {o:Nat},c5 w rd β r.bL o cs→c5 w (plus w (fun aP=>∃r,β i=some r∧r.has aP) rd) (fN β i none) r.bL o (cs.map (ag.iI σ i)):=by
      intro cs
      induction cs with
      |nil=>intro o _;trivial
      |cons v vs cJ=>rintro o ⟨⟨u,aN,aX⟩,cc⟩;exact⟨⟨u,aN,hf v u aX⟩,cJ cc⟩
     exact key dO.2
    |ints k xs=>rw[gO]at dO;exact dO.mono hle (fun _ _ _=>rfl) (fun cs e=>by cases e) (fun _=>rfl)
    |flts xs=>rw[gO]at dO;exact dO.mono hle (fun _ _ _=>rfl) (fun cs e=>by cases e) (fun _=>rfl)
    |recs sz xs=>rw[gO]at dO;exact dO.mono hle (fun _ _ _=>rfl) (fun cs e=>by cases e) (fun _=>rfl)
    |map n es=>rw[gO]at dO;exact dO.mono hle (fun _ _ _=>rfl) (fun cs e=>by cases e) (fun _=>rfl)
   exact hm
  eM:=fun k fm aj ad=>by
   simp only[St.iI]at aj
   split at aj
   ·cases aj
   ·rename_i rL
    have cE:β k=none:=by simpa [fN,rL]using ad
    cases h0:σ.aA k with
    |none=>rw[h0]at aj;cases aj
    |some cK=>
     rw[h0]at aj
     simp only[Option.map_some,Option.some.injEq]at aj
     subst aj
     obtain⟨bh,bB⟩:=h.eM k cK h0 cE
     exact⟨bh,by rw[←bB];exact Ed _ cK.c⟩
  eE:=fun j k h9 lK sG aF ad=>h.eE j k h9 lK sG (JG (sH aF) aF) (JG (sH ad) ad) }
end
inductive ji where
 |c (a:a3)
 |seq (a b:ji)
 |block (id:Nat) (a:ji)
 |GP (g:bk) (ps ws:List Nat) (pc body:a3)
 |Ob (i j:Nat) (ek:dM)
def NU (P:Program) (N:Nat) (ops:Array Oper):Option (Nat×dM):=
 match ops.toList with
 |[o]=>match o.op,o.dst,o.guard with
  | .alloc e,some i,none=>match P.underlying e,(P.info? e).bind (·.zero)with
    |some (.slice t),some (.slice none 0 0)=>if i<N then (sd P t).map (fun ek=>(i,ek))else none
    |_,_=>none
  |_,_,_=>none
 |_=>none
def yp (P:Program) (N:Nat):Code→Option ji
 | .seq a b=>match er P N (.seq a b)with
   |some l=>some (.c l)
   |none=>match yp P N a,yp P N b with
    |some x,some y=>some (.seq x y)
    |_,_=>none
 | .block id a=>match er P N (.block id a)with
   |some l=>some (.c l)
   |none=>(yp P N a).map (.block id)
 | .rangeFunc g ps pc body=>match dA P g,er P N pc,er P N body with
   |some g,some a,some b=>if ps.toList.all (fun p=>decide (p<N))then some (.GP g ps.toList (ps.toList++pH pc++pH body) a b)else none
   |_,_,_=>none
 | .region id ops d=>match (if d=true then none else NU P N ops)with
   |some (i,ek)=>some (.Ob i (i+500000) ek)
   |none=>(er P N (.region id ops d)).map .c
 |c=>(er P N c).map .c
def IG (P:Program) (f:Nat):Option (ji×List bo):=
 match P.funcs[f]? with
 |some fn=>match fn.body with
  |some c=>match yp P fn.ntmps c,zB P fn.results.toList with
   |some l,some r=>some (l,r)
   |_,_=>none
  |none=>none
 |none=>none
def St.only (σ:St) (ws:List Nat):St:=⟨fun t=>if ws.contains t=true then .any else σ.af t,σ.aA⟩
def Fh (σ:St):List Nat→List D→St
 |p::ps,d::ds=>Fh (σ.put (some p) (c3 d)) ps ds
 |_,_=>σ
def iM (Γ:Env) (S:Nat→Option k0):ji→(fi→St→Prop)→St→Prop
 | .c l,Q,σ=>cb Γ l Q σ
 | .seq a b,Q,σ=>iM Γ S a (fun e s=>match e with| .normal=>iM Γ S b Q s|e=>Q e s) σ
 | .block id a,Q,σ=>iM Γ S a (fun e s=>match e with| .exit j=>if j=id then Q .normal s else Q (.exit j) s|e=>Q e s) σ
 | .Ob i j ek,Q,σ=>Q .normal (((σ.fresh j ⟨false,false,lV ek⟩).fresh i ⟨false,false,.cells [.own j 0 0]⟩).put (some i) (.box i 0))
 | .GP g ps ws pc body,Q,σ=>match σ.aU g with
   | .d (.fn f [] cap)=>match S f with
     |some C=>C.pre cap∧∃(I:Nat→St→Prop) (M:Nat),0<M∧I 0 (σ.only ws)∧
      (∀k x s,k<M→C.seq cap k=some x→I k s→x.length=ps.length∧
       cb Γ pc (fun e s1=>match e with
        | .normal=>cb Γ body (fun e s2=>match e with
          | .normal=>I (k+1) (s2.only ws)∧k+1<M
          |e=>Q e (s2.only ws)) s1
        |_=>False) (Fh s ps x))∧
      (∀k s,C.seq cap k=none→I k s→∃m,asf s (Q .normal) m)
     |none=>False
   |_=>False
theorem MZ {Γ:Env} {S:Nat→Option k0} :∀(l:ji) {Q Q':fi→St→Prop} {σ:St},(∀e s,Q e s→Q' e s)→iM Γ S l Q σ→iM Γ S l Q' σ
 | .c l,_,_,_,h,k=>kb l h k
 | .seq a b,_,_,_,h,k=>MZ a (fun e s ad=>by cases e<;>first|exact MZ b h ad|exact h _ _ ad) k
 | .block id a,_,_,_,h,k=>MZ a (fun e s ad=>by
  cases e with
  |exit j=>simp only at ad⊢;split at ad<;>rename_i aF<;>simp only[aF,if_true,if_false]<;>exact h _ _ ad
  |normal=>exact h _ _ ad
  |ret=>exact h _ _ ad) k
 | .Ob i j ek,_,_,_,h,k=>h _ _ k
 | .GP g ps ws pc body,Q,Q',σ,h,k=>by
   simp only[iM]at k⊢
   split at k
   ·split at k
    ·rename_i f cap C gV
     obtain⟨aQ,I,M,h0,eP,ar,aD⟩:=k
     refine⟨aQ,I,M,h0,eP,fun k x s ad aj aE=> ?_,fun k s aJ aE=>by
      obtain⟨m,hm⟩:=aD k s aJ aE
      refine⟨m,?_⟩
      cases m with
      |none=>exact h _ _ hm
      |some i=>exact⟨hm.1,h _ _ hm.2⟩⟩
     obtain⟨h1,h2⟩:=ar k x s ad aj aE
     refine⟨h1,kb pc (fun e s1 he=> ?_) h2⟩
     cases e with
     |normal=>
      refine kb body (fun e s2 he=> ?_) he
      cases e with
      |normal=>exact he
      |exit j=>exact h _ _ he
      |ret=>exact h _ _ he
     |exit j=>exact he
     |ret=>exact he
    ·exact k.elim
   ·exact k.elim
theorem qU {Γ:Env} {S:Nat→Option k0} {a b:ji} {Q:fi→St→Prop} {σ:St} (K:St→Prop) (a6:iM Γ S a (fun e s=>match e with| .normal=>K s|e=>Q e s) σ) (aw:∀s,K s→iM Γ S b Q s):iM Γ S (.seq a b) Q σ:=by
 simp only[iM]
 refine MZ a (fun e s h=> ?_) a6
 cases e with
 |normal=>exact aw s h
 |exit j=>exact h
 |ret=>exact h
def zN (Γ:Env) (S:Nat→Option k0) (l:ji) (rs:List bo) (args:List D) (K:D→Prop):Prop:=
 iM Γ S l (fun e σ=>match e with| .exit _=>False|_=>kJ rs σ K) (uo args)
section
variable {N:Nat} {aR:e3} {aL:Mem} {R:bU} {σ σ':St} {a:Act} {w w':World} {rd rd':Mem} {β β':bU} {P:Program} {Γ:Env} {n:Nat}
theorem bd.only (h:bd N aR aL R σ a w rd β) (ws:List Nat):bd N aR aL R (σ.only ws) a w rd β:=
 have ae:∀t,aT rd β ((σ.only ws).af t) (a.tmps.getD t undef):=fun t=>by
  simp only[St.only]
  split
  ·simp only[aT]
  ·exact h.eX t
 { size:=h.size,defers:=h.defers,cO:=h.cO,dH:=h.dH,dg:=h.dg,dR:=h.dR,aL:=h.aL,eR:=h.eR,eX:=ae,box:=h.box,eM:=h.eM,eE:=h.eE }
theorem bd.back {ej:Act} (h:bd N aR aL R σ ej w rd β) {ws:List Nat} (aE:a.tmps.size=N) (aD:a.defers=[]) (ad:k9 (fun t=> !ws.contains t) (fun t=>a.tmps.getD t undef) ej):
 bd N aR aL R (σ.only ws) a w rd β:=
 have ae:∀t,aT rd β ((σ.only ws).af t) (a.tmps.getD t undef):=fun t=>by
  simp only[St.only]
  by_cases ae:ws.contains t=true
  ·rw[if_pos ae];simp only[aT]
  ·rw[if_neg ae]
   have e:ej.tmps.getD t undef=a.tmps.getD t undef:=ad t (by simpa using ae)
   rw[←e];exact h.eX t
 { size:=aE,defers:=aD,cO:=h.cO,dH:=h.dH,dg:=h.dg,dR:=h.dR,aL:=h.aL,eR:=h.eR,eX:=ae,box:=h.box,eM:=h.eM,eE:=h.eE }
theorem bd.aq4 (h:bd N aR aL R σ a w rd β):bd N aR rd R σ a w rd β:=
 { h with dR:=b3.refl _,aL:=fun _ _ e _=>e }
theorem bd.aq5 {gy:Mem} (h:bd N aR gy R σ a w rd β) (hm:b3 aL gy) (h0:∀aP v,gy aP=some v→aP.block<aR.heap.size→aL aP=some v):bd N aR aL R σ a w rd β:=
 { h with dR:=hm.trans h.dR,aL:=fun aP v e aH=>h0 aP v (h.aL aP v e aH) aH }
def mF (ot:Nat→Option Obj) (l:Nat) (o:Obj):Nat→Option Obj:=fun k=>if k=l then some o else ot k
theorem bd.JH {ot sR:Nat→Option Obj} {W:World} (h:bd N ⟨W,ot⟩ aL R σ a w rd β) (bz:∀k o,sR k=some o→Safe rd β k o∧w.heap[k]? =some o):bd N ⟨W,sR⟩ aL R σ a w rd β:=
 { size:=h.size,defers:=h.defers,cO:=h.cO,dH:=bz,dg:=h.dg,dR:=h.dR,aL:=h.aL,eR:=h.eR,eX:=h.eX,box:=h.box,eM:=h.eM,eE:=h.eE }
theorem amb {l:Nat} {o:Obj} (bz:A0 o) (aH:w.heap[l]? =some o) {aP:Addr} (aw:aP.block=l):w.cell? aP=none:=by
 unfold World.cell?
 rw[aw,aH]
 cases o with
 |cells c t cx=>exact absurd rfl (bz.1 c t cx)
 |_=>rfl
theorem bd.Oc {ot:Nat→Option Obj} {W:World} (h:bd N ⟨W,ot⟩ aL R σ a w rd β) {l:Nat} {o o':Obj} (aH:w.heap[l]? =some o) (bz:A0 o) (jw:A0 o') (hW:W.heap.size≤l):bd N ⟨W,mF ot l o'⟩ aL R σ a (w.putObj l o') rd β:=by
 have bl:=(Array.getElem?_eq_some_iff.1 aH).1
 have Fg:∀k,k≠l→(w.putObj l o').heap[k]? =w.heap[k]? :=fun k ad=>World.putObj_heap_other ad
 have fr:∀aP v,w.cell? aP=some v→(w.putObj l o').cell? aP=some v:=fun aP v aB=>by
  have eB:aP.block≠l:=fun e=>by rw[amb bz aH e]at aB;cases aB
  rw[th (Fg _ eB)];exact aB
 have tL:∀{r:cY} {c:BC},dZ w r c→r.bL≠l:=fun {r c} aQ e=>by
  unfold dZ at aQ
  split at aQ
  ·obtain⟨⟨es,k,h1⟩,_⟩:=aQ
   rw[e,aH]at h1
   exact bz.2 _ _ (Option.some.inj h1)
  ·obtain⟨arr,t,cx,h1,_⟩:=aQ
   rw[e,aH]at h1
   exact bz.1 _ _ _ (Option.some.inj h1)
 exact {
  size:=h.size
  defers:=h.defers
  cO:=⟨h.cO.os,h.cO.tape,h.cO.output,by rw[World.putObj_size];exact h.cO.size,fun k ad=>by
   rw[Fg k (by have ad:k<W.heap.size:=ad;omega)];exact h.cO.block k ad⟩
  dH:=fun k x ad=>by
   simp only[mF]at ad
   split at ad
   ·rename_i e
    subst e
    simp only[Option.some.injEq]at ad;subst ad
    exact⟨.inl jw,World.putObj_heap_same bl⟩
   ·rename_i e
    obtain⟨h1,h2⟩:=h.dH k x ad
    exact⟨h1,by rw[Fg k e];exact h2⟩
  dg:=fun aP v e=>fr aP v (h.dg aP v e)
  dR:=h.dR
  aL:=h.aL
  eR:=h.eR
  eX:=h.eX
  box:=fun i r hi=>by
   obtain⟨b,aj,ay,aQ,h1,h2⟩:=h.box i r hi
   have aw:=Fg _ (tL aQ)
   exact⟨b,aj,ay.mono (b3.refl _) (fun j _ _=>th aw) (fun _ _ _ _ _ H=>H) (fun _=>aw),aQ.x8 aw,h1,h2⟩
  eM:=h.eM
  eE:=h.eE }
def kf (ot p:Nat→Option Obj):Nat→Option Obj:=fun k=>match p k with
 |some o=>some o
 |none=>ot k
def zI (w w':World) (p:Nat→Option Obj) (rd:Mem):Mem:=fun aP=>if aP.block<w.heap.size then rd aP else if (p aP.block).isNone=true then w'.cell? aP else none
theorem IH {ot p:Nat→Option Obj} {k:Nat} {o:Obj} (h:p k=some o):kf ot p k=some o:=by unfold kf;rw[h]
theorem Nf {ot p:Nat→Option Obj} {k:Nat} (h:p k=none):kf ot p k=ot k:=by unfold kf;rw[h]
theorem anH (ot:Nat→Option Obj):kf ot UP=ot:=rfl
theorem bd.grow {ot p dx:Nat→Option Obj} {W cP:World} (h:bd N ⟨W,kf ot p⟩ aL R σ a w rd β) (g:C2 p w dx cP) (aQ:∀b o,p b=some o→W.heap.size≤b∧∃c t cx,o= .cells c t cx) (h1:∀k o,ot k=some o→p k=none∧dx k=none):
 bd N ⟨W,kf ot dx⟩ aL R σ a cP (zI w cP dx rd) β:=by
 have Ss:∀b o,p b=some o→(∀i r,β i=some r→r.bL≠b)∧∀aP:Addr,aP.block=b→rd aP=none:=fun b o aw=>by
  obtain⟨_,c,t,cx,rfl⟩:=aQ b o aw
  rcases (h.dH b _ (IH aw)).1 with k|k
  ·exact absurd rfl (k.1 _ _ _)
  ·exact k
 have Wn:∀i r,β i=some r→p r.bL=none:=fun i r hi=>by
  cases e:p r.bL with
  |none=>rfl
  |some o=>exact absurd rfl ((Ss _ _ e).1 i r hi)
 have UQ:∀i r,β i=some r→r.bL<w.heap.size:=fun i r hi=>by obtain⟨_,_,_,aQ,_⟩:=h.box i r hi;exact aQ.lt
 have same:∀aP:Addr,aP.block<w.heap.size→zI w cP dx rd aP=rd aP:=fun aP aH=>by unfold zI;rw[if_pos aH]
 have hle:b3 rd (zI w cP dx rd):=fun aP v e=>by rw[same aP (AP (h.dg aP v e))];exact e
 exact {
  size:=h.size
  defers:=h.defers
  cO:=⟨g.os.trans h.cO.os,g.tape.trans h.cO.tape,g.output.trans h.cO.output,Nat.le_trans h.cO.size g.size,fun k ad=>by
   have cE:k<W.heap.size:=ad
   have:p k=none:=by
    cases e:p k with
    |none=>rfl
    |some o=>have:=(aQ k o e).1;omega
   rw[g.block k (Nat.lt_of_lt_of_le cE h.cO.size) this]
   exact h.cO.block k ad⟩
  dH:=fun k o ad=>by
   have cE:kf ot dx k=some o:=ad
   cases e:dx k with
   |some o'=>
    rw[IH e]at cE
    simp only[Option.some.injEq]at cE;subst cE
    obtain⟨ct,db,fc⟩:=g.pb k o' e
    refine⟨.inr ?_,ct⟩
    cases q:p k with
    |some da=>
     obtain⟨s1,s2⟩:=Ss k da q
     exact⟨s1,fun aP aw=>by
      unfold zI
      split
      ·exact s2 aP aw
      ·rw[aw,e];rfl⟩
    |none=>
     have:=fc q
     exact⟨fun i r hi=>by have:=UQ i r hi;omega,fun aP aw=>by
      unfold zI
      rw[if_neg (by omega),aw,e];rfl⟩
   |none=>
    rw[Nf e]at cE
    obtain⟨q,_⟩:=h1 k o cE
    obtain⟨s1,s2⟩:=h.dH k o (by show kf ot p k=some o;rw[Nf q];exact cE)
    have bl:=(Array.getElem?_eq_some_iff.1 s2).1
    exact⟨s1.to (fun aP v e aw=> .inl (by rw[←same aP (by omega)];exact e)) (fun i r hi e=>⟨i,r,hi,e⟩),by rw[g.block k bl q];exact s2⟩
  dg:=fun aP v e=>by
   unfold zI at e
   split at e
   ·rename_i aH
    have aJ:p aP.block=none:=by
     cases q:p aP.block with
     |none=>rfl
     |some o=>rw[(Ss _ _ q).2 aP rfl]at e;cases e
    rw[th (g.block _ aH aJ)]
    exact h.dg aP v e
   ·split at e
    ·exact e
    ·cases e
  dR:=h.dR.trans hle
  aL:=fun aP v e aH=>h.aL aP v (by rw[←same aP (Nat.lt_of_lt_of_le aH h.cO.size)];exact e) aH
  eR:=fun i r b hi aj bp aP a6=>by rw[same aP (by rw[a6.1];exact UQ i r hi)];exact h.eR i r b hi aj bp aP a6
  eX:=fun t=>(h.eX t).mono hle
  box:=fun i r hi=>by
   obtain⟨b,aj,ay,aQ,bh,bB⟩:=h.box i r hi
   have aw:=g.block _ (UQ i r hi) (Wn i r hi)
   exact⟨b,aj,ay.mono hle (fun j _ _=>th aw) (fun _ _ v _ u H=>aT.mono hle v u H) (fun _=>aw),aQ.x8 aw,bh,bB⟩
  eM:=h.eM
  eE:=h.eE }
theorem Yz:∀{ps:List Nat} {x:List D} {vs:List Value} {σ:St} {a:Act},bd N aR aL R σ a w rd β→bP rd x vs→(∀p∈ps,p<N)→x.length=ps.length→
 bd N aR aL R (Fh σ ps x) { tmps:=(ps.zip vs).foldl (fun t y=>t.setIfInBounds y.1 y.2) a.tmps,defers:=[] } w rd β∧
  ∀(T:Nat→Bool) (av:Nat→Value),(∀p∈ps,T p=false)→k9 T av a→k9 T av { tmps:=(ps.zip vs).foldl (fun t y=>t.setIfInBounds y.1 y.2) a.tmps,defers:=[] }
 |[],x,vs,σ,a,h,ar,aQ,aH=>by
  have:({ tmps:=a.tmps,defers:=[] } :Act)=a:=by have:=h.defers;cases a;simp_all
  simp only[List.zip_nil_left,List.foldl_nil]
  rw[this]
  exact⟨by cases x<;>exact h,fun T av _ ad=>ad⟩
 |p::ps,[],vs,σ,a,h,ar,aQ,aH=>by simp at aH
 |p::ps,d::x,vs,σ,a,h,ar,aQ,aH=>by
  simp only[bP]at ar
  obtain⟨v,us,rfl,h1,h2⟩:=ar
  have ay:=h.put (dst:=some p) (by simp[hK,aQ p (by simp)]) (pG (β:=β) h1)
  obtain⟨bh,bB⟩:=Yz (ps:=ps) ay h2 (fun q aO=>aQ q (by simp[aO])) (by simpa using aH)
  refine⟨bh,fun T av cy ad=>bB T av (fun q aO=>cy q (by simp[aO])) (ad.put (fun y hy=> ?_) v)⟩
  simp only[Option.some.injEq]at hy
  subst hy
  exact cy p (by simp)
def la (D:Nat):Deferred:= { target:= .collected D,args:= #[] }
def A7 (ot:Nat→Option Obj) (Ds:List Nat):Prop:=Ds.Nodup∧∀D∈Ds,ot D=some (.deferred (some []))
def Fi (N:Nat) (W:World) (aL:Mem) (R:bU) (Q:fi→St→Prop) (e:Exit) (b7:Act) (w':World):Prop:=
 ∃(Ds:List Nat) (ot:Nat→Option Obj) (dE:Act),b7=fY dE (Ds.map la)∧A7 ot Ds∧(∀D∈Ds,W.heap.size≤D)∧Ff N ⟨W,ot⟩ aL R Q e dE w'
def Fj (P:Program) (B:Mem) (S:Nat→Option k0):Prop:=∀f C,S f=some C→afh P B f C
theorem QH (ds:Option (List Deferred)):A0 (.deferred ds):=⟨(fun c t cx e=>by cases e),(fun es k e=>by cases e)⟩
theorem zu (r:Loop):A0 (.loop r):=⟨(fun c t cx e=>by cases e),(fun es k e=>by cases e)⟩
theorem amc (hm:P.follows .mixedOrders=true) (c6:ah P aL Γ) {S:Nat→Option k0} (jG:Fj P aL S) {M0:Nat} (cg:M0≤N) {W:World} {ot:Nat→Option Obj} {UR:Operand} {ps:Array Tmp} {pc body:Code} {g:bk} {b4 dJ:a3}
 (bb:dA P UR=some g) (a6:er P M0 pc=some b4) (aw:er P M0 body=some dJ) (Pb:ps.toList.all (fun p=>decide (p<M0))=true) {Q:fi→St→Prop} {Ds:List Nat}
 (h:bd N ⟨W,ot⟩ aL R σ a w rd β) (hz:A7 ot Ds) (iq:∀D∈Ds,W.heap.size≤D) (ad:iM Γ S (.GP g ps.toList (ps.toList++pH pc++pH body) b4 dJ) Q σ):
 (Code.rangeFunc UR ps pc body).wpIn (hR none) n P (Fi N W aL R Q) (fY a (Ds.map la)) w:=by
 obtain⟨ws,Pc⟩:∃ws,ws=ps.toList++pH pc++pH body:=⟨_,rfl⟩
 rw[←Pc]at ad
 simp only[iM]at ad
 split at ad
 rotate_left
 ·exact ad.elim
 rename_i f cap auY
 split at ad
 rotate_left
 ·exact ad.elim
 rename_i C gV
 obtain⟨N7,I,M,cp,auZ,aq6,asg⟩:=ad
 have KH:=ez h bb
 rw[auY]at KH
 simp only[aT,bj]at KH
 obtain⟨gd,US,asZ,bA,bX⟩:=KH
 have au0:gd= #[]:=by
  simp only[bP]at bA
  exact Array.toList_eq_nil_iff.1 bA
 subst au0
 obtain⟨ash,c0⟩:=jG f C gV
 refine wpIn_rangeFunc ?_
 intro fn _
 obtain⟨rec,vm⟩:∃rec:LoopState→Option Code→Loop,rec=fun st ze=> { state:=st,pending:=ze,fn,tmps:=a.tmps,params:=ps,assign:=pc,body,defers:=w.heap.size } :=⟨_,rfl⟩
 obtain⟨zf,Pf⟩:∃zf,(w.alloc (.deferred (some []))).alloc (.loop (rec .ready none))=zf:=⟨_,rfl⟩
 have au1:zf.heap[w.heap.size+1]? =some (.loop (rec .ready none)):=by
  rw[←Pf];have:=World.alloc_heap_new (w.alloc (.deferred (some []))) (.loop (rec .ready none));rwa [World.size_alloc]at this
 have sO:Below w.heap.size w zf:=by
  rw[←Pf];exact((Below.refl _ w).alloc (Nat.le_refl _) _).alloc (by simp) _
 have au2:zf.heap[w.heap.size]? =some (.deferred (some [])):=by
  rw[←Pf];exact(Below.heap_alloc _ _ _ (by simp)).trans (World.alloc_heap_new w _)
 have au3:W.heap.size≤w.heap.size:=h.cO.size
 obtain⟨iu,Od⟩:∃iu,iu=mF ot w.heap.size (.deferred (some [])):=⟨_,rfl⟩
 have afi:bd N ⟨W,iu⟩ aL R σ a zf rd β:=by
  refine(h.below sO).JH fun k o ad=> ?_
  rw[Od]at ad
  simp only[mF]at ad
  split at ad
  ·rename_i e
   subst e
   simp only[Option.some.injEq]at ad;subst ad
   exact⟨.inl (QH _),au2⟩
  ·exact(h.below sO).dH k o ad
 have as0:∀p∈ps.toList,p<N:=fun p aQ=>by
  exact Nat.lt_of_lt_of_le (of_decide_eq_true (List.all_eq_true.1 Pb p aQ)) cg
 refine⟨w.heap.size+1,[la w.heap.size],zf,{ target:= .fn (.func f) US,args:= #[.func (.yield (w.heap.size+1)) #[] #[]] },zf,f,#[.func (.yield (w.heap.size+1)) #[] #[]]++US,zf,?_,?_,fun _ _=>trivial,?_,fun aD=>by simp[hR,Fence.wide]at aD,?_⟩
 ·rw[←Pf,vm];exact run_enterLoop_outer _ _ _ _ _
 ·rw[QR]
  simp only[resolve,asZ]
  simp[go_sem]
 ·simp[invoke,go_sem,L8 ash]
 obtain⟨zg,Pg⟩:∃zg:(Nat→Option Obj)→Prop,zg=fun p=>∀b o,p b=some o→w.heap.size+2≤b∧∃c t cx,o= .cells c t cx:=⟨_,rfl⟩
 obtain⟨J,s6⟩:∃J:Nat→(Nat→Option Obj)→Mem→World→Prop,J=fun k p m w'=>(∃σ' rd' β',I k σ'∧bd N ⟨W,kf iu p⟩ aL R σ' a w' rd' β'∧b3 m rd')∧w'.heap[w.heap.size+1]? =some (.loop (rec .ready none))∧zg p:=⟨_,rfl⟩
 obtain⟨Jx,KI⟩:∃Jx:(Nat→Option Obj)→World→Prop,Jx=fun p w'=>∃(e:fi) (c:Code),(match e with| .exit j=>c= .exit j| .ret=>c= .ret| .normal=>False)∧jh N ⟨W,kf iu p⟩ aL R (Q e) a w'∧w'.heap[w.heap.size+1]? =some (.loop (rec .done (some c)))∧zg p:=⟨_,rfl⟩
 have SP:∀k o,iu k=some o→k<w.heap.size+1:=fun k o ad=>by
  rw[Od]at ad
  simp only[mF]at ad
  split at ad
  ·omega
  ·have:=(Array.getElem?_eq_some_iff.1 (h.dH k o ad).2).1
   omega
 have DB:∀p,zg p→∀k,k<w.heap.size+2→p k=none:=fun p aQ k ad=>by
  cases e:p k with
  |none=>rfl
  |some o=>rw[Pg]at aQ;have:=(aQ k o e).1;omega
 have afj:∀p cf dx cP,zg p→C2 p cf dx cP→w.heap.size+1<cf.heap.size→zg dx:=fun p cf dx cP aQ g aH=>by
  rw[Pg]at aQ⊢
  intro b o aw
  obtain⟨_,db,fc⟩:=g.pb b o aw
  refine⟨?_,db⟩
  cases e:p b with
  |none=>have:=fc e;omega
  |some da=>exact(aQ b da e).1
 have afk:∀{p cf dx cP y1 gy kR},zg p→zg dx→bd N ⟨W,kf iu p⟩ aL R y1 a cf gy kR→C2 p cf dx cP→bd N ⟨W,kf iu dx⟩ aL R y1 a cP (zI cf cP dx gy) kR:=fun {p cf dx cP y1 gy kR} aQ o8 ay g=>
  ay.grow g (fun b o aw=>by
    have:=aQ
    rw[Pg]at this
    have h2:=this b o aw
    exact⟨by omega,h2.2⟩) fun k o ad=>by have:=SP k o ad;exact⟨DB p aQ k (by omega),DB dx o8 k (by omega)⟩
 refine(Ze (c0 cap N7 zf rd US (w.heap.size+1) M J Jx h.dR afi.dg bX cp ?_ ?_ ?_ ?_)).mono ?_
 ·rw[s6]
  exact⟨⟨_,rd,β,auZ,(anH iu).symm▸afi.only ws,b3.refl _⟩,au1,by rw[Pg];intro b o aw;cases aw⟩
 ·rw[s6]
  rintro k p m cf dx eg cP ⟨⟨y1,gy,kR,hi,ay,iL⟩,aH,mG⟩ g hle as1 hold UT
  have bl:=(Array.getElem?_eq_some_iff.1 aH).1
  have JI:=afj _ _ _ _ mG g bl
  refine⟨⟨y1,_,kR,hi,afk mG JI ay g,fun aP v e=> ?_⟩,(g.block _ bl (DB p mG _ (by omega))).trans aH,JI⟩
  unfold zI
  split
  ·rename_i bl;exact iL aP v (hold aP v e bl)
  ·rw[if_pos (by rw[UT aP v e];rfl)];exact as1 aP v e
 ·rw[KI]
  rintro p cf dx cP ⟨e,c,he,⟨y1,gy,kR,aO,ay⟩,aH,mG⟩ g
  have bl:=(Array.getElem?_eq_some_iff.1 aH).1
  have JI:=afj _ _ _ _ mG g bl
  exact⟨e,c,he,⟨y1,_,kR,aO,afk mG JI ay g⟩,(g.block _ bl (DB p mG _ (by omega))).trans aH,JI⟩
 ·
  rw[s6,KI]
  rintro k p m cf x vs UU aj ⟨⟨y1,gy,kR,hi,ay,iL⟩,aH,mG⟩ cQ n
  obtain⟨Ph,asi⟩:=aq6 k x y1 UU aj hi
  have jx:vs.size=ps.size:=by
   have:=AH cQ
   simp only[Array.length_toList]at this
   have h2:=Ph
   simp only[Array.length_toList]at h2
   omega
  have hy:=run_yield (P:=P) (args:=vs) aH (by rw[vm];exact jx)
  rw[vm]at hy
  refine⟨fn,_,pc,body,hy,roundIn_of_wpIn (F:=hR none) trivial ?_⟩
  have bl:=(Array.getElem?_eq_some_iff.1 aH).1
  have au4:kf iu p (w.heap.size+1)=none:=by
   rw[Nf (DB p mG _ (by omega))]
   cases e:iu (w.heap.size+1)with
   |none=>rfl
   |some o=>have:=SP _ o e;omega
  have lx:bd N ⟨W,mF (kf iu p) (w.heap.size+1) (.loop (rec .ready none))⟩ aL R y1 a cf gy kR:=ay.JH fun j o aF=>by
   simp only[mF]at aF
   split at aF
   ·rename_i e
    subst e
    simp only[Option.some.injEq]at aF;subst aF
    exact⟨.inl (zu _),aH⟩
   ·exact ay.dH j o aF
  obtain⟨au5,gl⟩:=Yz (ps:=ps.toList) lx.aq4 (cQ.mono iL _ _) as0 Ph
  have cy:∀d∈ws,(fun t=> !ws.contains t) d=false:=fun d aD=>by simp[aD]
  have gB:=gl (fun t=> !ws.contains t) (fun t=>a.tmps.getD t undef) (fun p aQ=>cy p (by rw[Pc];simp[aQ])) (fun t _=>rfl)
  have abM:=c6.mono ay.dR
  have Dm:(ps.zip vs).foldl (fun(t:Array Value) (y:Tmp×Value)=>t.setIfInBounds y.1 y.2) a.tmps=(ps.toList.zip vs.toList).foldl (fun t y=>t.setIfInBounds y.1 y.2) a.tmps:=by
   rw[←Array.foldl_toList,Array.toList_zip]
  have as2:(ps.zip vs).foldl (fun(t:Array Value) (x:Tmp×Value)=>match x with|(p,v)=>t.setIfInBounds p v) a.tmps=(ps.toList.zip vs.toList).foldl (fun t y=>t.setIfInBounds y.1 y.2) a.tmps:=Dm
  have Td:=RT (r:=some (w.heap.size+1)) (n:=n) (ds:=[]) (T:=fun t=> !ws.contains t) (av:=fun t=>a.tmps.getD t undef) hm abM cg pc a6 (fun d aD=>cy d (by rw[Pc];simp[aD])) gB au5 asi
  rw[zy]at Td
  refine wpIn_mono (Q:=_) (by rw[←as2]at Td;exact Td) fun e cj cP he=> ?_
  obtain⟨ej,rfl,as3,he⟩:=he
  rw[zy]
  cases e with
  |normal=>
   obtain⟨azr,azs,azt,jZ,KJ⟩:=he
   have eG:=(KJ.dH (w.heap.size+1) (.loop (rec .ready none)) (by simp[mF])).2
   refine⟨_,run_beginRound eG (by rw[vm]),?_⟩
   have au6:=KJ.Oc eG (zu _) (zu { rec .ready none with state:= .busy }) (by omega)
   have z8:=RT (r:=some (w.heap.size+1)) (n:=n) (ds:=[]) (T:=fun t=> !ws.contains t) (av:=fun t=>a.tmps.getD t undef) hm abM cg body aw (fun d aD=>cy d (by rw[Pc];simp[aD])) as3 au6 jZ
   rw[zy]at z8
   refine wpIn_mono z8 fun e qB pr he=> ?_
   obtain⟨ib,rfl,as4,he⟩:=he
   rw[zy]
   have fin:∀{K:St→Prop},jh N ⟨W,mF (mF (kf iu p) (w.heap.size+1) (.loop (rec .ready none))) (w.heap.size+1) (.loop { rec .ready none with state:= .busy })⟩ gy R K ib pr→∀(jump:Option Code),
    (Instr.endRound (w.heap.size+1) jump).run P pr= .ok (.bool jump.isNone) (pr.putObj (w.heap.size+1) (.loop (rec (if jump.isNone then .ready else .done) jump)))∧
    b3 m (pr.putObj (w.heap.size+1) (.loop (rec (if jump.isNone then .ready else .done) jump))).cell?∧
    (pr.putObj (w.heap.size+1) (.loop (rec (if jump.isNone then .ready else .done) jump))).heap[w.heap.size+1]? =some (.loop (rec (if jump.isNone then .ready else .done) jump))∧
    ∃σ' rd' β',K σ'∧bd N ⟨W,kf iu p⟩ aL R (σ'.only ws) a (pr.putObj (w.heap.size+1) (.loop (rec (if jump.isNone then .ready else .done) jump))) rd' β'∧b3 m rd':=by
    rintro K ⟨σ',rd',β',b9,UW⟩ jump
    have UX:=(UW.dH (w.heap.size+1) (.loop { rec .ready none with state:= .busy }) (by simp[mF])).2
    have as5:=(Array.getElem?_eq_some_iff.1 UX).1
    have BW:=run_endRound (P:=P) jump UX
    have au7:({ ({ rec .ready none with state:= .busy } :Loop)with state:=if jump.isNone then .ready else .done,pending:=jump } :Loop)=rec (if jump.isNone then .ready else .done) jump:=by rw[vm]
    rw[au7]at BW
    have UY:=UW.Oc UX (zu _) (zu (rec (if jump.isNone then .ready else .done) jump)) (by omega)
    have BX:b3 m rd':=fun aP v e=>UW.dR aP v (iL aP v e)
    have au8:bd N ⟨W,kf iu p⟩ gy R σ' ib (pr.putObj (w.heap.size+1) (.loop (rec (if jump.isNone then .ready else .done) jump))) rd' β':=UY.JH fun j o aF=>by
     by_cases o7:j=w.heap.size+1
     ·exfalso
      rw[o7,au4]at aF;cases aF
     ·exact UY.dH j o (by simp only[mF,if_neg o7];exact aF)
    refine⟨BW,fun aP v e=>UY.dg aP v (BX aP v e),World.putObj_heap_same as5,σ',rd',β',b9,?_,BX⟩
    exact(au8.aq5 ay.dR (fun aP v e aH=>ay.aL aP v e aH)).back ay.size ay.defers as4
   cases e with
   |normal=>
    obtain⟨BW,BX,KK,σ',rd',β',b9,BZ,Te⟩:=fin he none
    exact⟨_,_,BW,BX,fun b o aw=>(BZ.dH b o (IH aw)).2,.inl ⟨rfl,⟨⟨σ'.only ws,rd',β',b9.1,BZ,Te⟩,KK,mG⟩,b9.2⟩⟩
   |ret=>
    obtain⟨BW,BX,KK,σ',rd',β',b9,BZ,Te⟩:=fin he (some .ret)
    exact⟨_,_,BW,BX,fun b o aw=>(BZ.dH b o (IH aw)).2,.inr ⟨rfl,.ret,.ret,rfl,⟨σ'.only ws,rd',β',b9,BZ⟩,KK,mG⟩⟩
   |exit j=>
    obtain⟨BW,BX,KK,σ',rd',β',b9,BZ,Te⟩:=fin he (some (.exit j))
    exact⟨_,_,BW,BX,fun b o aw=>(BZ.dH b o (IH aw)).2,.inr ⟨rfl,.exit j,.exit j,rfl,⟨σ'.only ws,rd',β',b9,BZ⟩,KK,mG⟩⟩
   |_=>exact he.elim
  |exit j=>obtain⟨_,_,_,aO,_⟩:=he;exact aO.elim
  |ret=>obtain⟨_,_,_,aO,_⟩:=he;exact aO.elim
  |_=>exact he.elim
 ·
  rintro e cP ⟨v,rfl,abN⟩
  have SQ:({ fY a (Ds.map la)with defers:=[la w.heap.size]++(fY a (Ds.map la)).defers } :Act)=fY a ((w.heap.size::Ds).map la):=by
   simp[fY,h.defers]
  have Oe:A7 iu (w.heap.size::Ds):=by
   refine⟨List.nodup_cons.2 ⟨fun Oa=> ?_,hz.1⟩,fun D qC=> ?_⟩
   ·have:=(Array.getElem?_eq_some_iff.1 (h.dH _ _ (hz.2 _ Oa)).2).1
    omega
   ·rw[Od]
    simp only[mF]
    split
    ·rfl
    ·rename_i eB
     rcases List.mem_cons.1 qC with e|e
     ·exact absurd e eB
     ·exact hz.2 D e
  have Og:∀D∈w.heap.size::Ds,W.heap.size≤D:=fun D qC=>by
   rcases List.mem_cons.1 qC with rfl|e
   ·exact au3
   ·exact iq D e
  have abd:∀{o:Obj} {σ':St} {rd':Mem} {β':bU} {o':Obj},bd N ⟨W,iu⟩ aL R σ' a cP rd' β'→cP.heap[w.heap.size+1]? =some o→A0 o→A0 o'→bd N ⟨W,iu⟩ aL R σ' a (cP.putObj (w.heap.size+1) o') rd' β':=fun {o σ' rd' β' o'} ay aH aJ sI=>by
   have cZ:=ay.Oc aH aJ sI (by omega)
   refine cZ.JH fun j x aF=> ?_
   by_cases o7:j=w.heap.size+1
   ·exfalso
    have Pj:=aF
    rw[Od]at Pj
    simp only[mF]at Pj
    rw[if_neg (by omega)]at Pj
    have:=(Array.getElem?_eq_some_iff.1 (h.dH j x Pj).2).1
    omega
   ·exact cZ.dH j x (by simp only[mF,if_neg o7];exact aF)
  have asj:∀{p:Nat→Option Obj} {σ':St} {rd':Mem} {β':bU},zg p→bd N ⟨W,kf iu p⟩ aL R σ' a cP rd' β'→bd N ⟨W,iu⟩ aL R σ' a cP rd' β':=fun {p σ' rd' β'} mG ay=>
   ay.JH fun j x aF=>ay.dH j x (by show kf iu p j=some x;rw[Nf (DB p mG j (by have:=SP j x aF;omega))];exact aF)
  rw[s6,KI]at abN
  rcases abN with ⟨k,p,m,SN,⟨σ',rd',β',hi,ay,_⟩,aH,mG⟩|⟨p,e,c,he,⟨σ',rd',β',aO,ay⟩,aH,mG⟩<;>have ay:=asj mG ay
  ·refine⟨none,_,by have:=run_endLoop (P:=P) aH (by rw[vm];simp);rw[vm]at this;exact this,?_⟩
   have UZ:=abd (o':= .loop { rec .ready none with state:= .exhausted }) ay aH (zu _) (zu _)
   rw[vm]at UZ
   obtain⟨m,afl⟩:=asg k σ' SN hi
   cases m with
   |none=>exact⟨w.heap.size::Ds,iu,a,SQ,Oe,Og,σ',rd',β',afl,UZ⟩
   |some i=>
    obtain⟨⟨b,fl,jX⟩,aO⟩:=afl
    exact⟨w.heap.size::Ds,iu,a,SQ,Oe,Og,_,_,_,aO,UZ.iI fl jX⟩
  ·refine⟨some c,_,by have:=run_endLoop (P:=P) aH (by rw[vm];simp);rw[vm]at this;exact this,?_⟩
   have U0:=abd (o':= .loop { rec .done (some c)with state:= .exhausted }) ay aH (zu _) (zu _)
   rw[vm]at U0
   rw[SQ]
   cases e with
   |normal=>exact he.elim
   |exit j=>
    simp only at he;subst he
    exact wpIn_exit ⟨w.heap.size::Ds,iu,a,rfl,Oe,Og,σ',rd',β',aO,U0⟩
   |ret=>
    simp only at he;subst he
    exact wpIn_ret ⟨w.heap.size::Ds,iu,a,rfl,Oe,Og,σ',rd',β',aO,U0⟩
end
end RV
namespace RV
open Go Go.RowKit
section
variable {N:Nat} {aR:e3} {aL:Mem} {R:bU} {σ σ':St} {a:Act} {w w':World} {rd rd':Mem} {β β':bU} {P:Program} {Γ:Env} {n:Nat}
theorem JF.toX {W:World} {ot:Nat→Option Obj} {Q:fi→St→Prop} {T:Nat→Bool} {av:Nat→Value} {Ds:List Nat} (hz:A7 ot Ds) (iq:∀D∈Ds,W.heap.size≤D) {e:Exit} {b7:Act} {w':World} (h:JF N ⟨W,ot⟩ aL R (Ds.map la) T av Q e b7 w'):Fi N W aL R Q e b7 w':=by
 obtain⟨dE,rfl,_,h⟩:=h
 exact⟨Ds,ot,dE,rfl,hz,iq,h⟩
theorem amd (h:bd N aR aL R σ a w rd β) {o:Oper} {e:TypeId} {i j:Nat} (bw:o.op= .alloc e) (p8:o.dst=some i) (hi:i<N) {inf:TypeInfo} (ld:P.info? e=some inf) (bp:inf.zero=some (.slice none 0 0)) {ek:dM} {K:St→Prop}
 (ad:K (((σ.fresh j ⟨false,false,lV ek⟩).fresh i ⟨false,false,.cells [.own j 0 0]⟩).put (some i) (.box i 0))):eW P N aR aL R o a w K:=by
 have aJ:(lV ek).isNil=true:=by cases ek<;>rfl
 have bA:=tj σ j ⟨false,false,lV ek⟩ (rd:=rd) (β:=β)
 have h1:=h.Sl (i:=j) (b:=⟨false,false,lV ek⟩) rfl aJ (bA.rep none) bA.af bA.aA
 have bX:=tj (σ.fresh j ⟨false,false,lV ek⟩) i ⟨false,false,.cells [.own j 0 0]⟩ (rd:=rd) (β:=fun k=>if k=j then none else β k)
 have h2:=Nb h1 bX (arr:= #[.slice none 0 0]) (e:=e) (by
  simp only[bY,aT]
  exact⟨_,_,rfl,⟨none,0,rfl,Nat.le_refl _,.inl ⟨trivial,rfl⟩⟩,rfl⟩)
 have aD:hK N o.dst=true:=by rw[p8];simp[hK,hi]
 refine eW.value (u:= .pointer (some (cellAt w.heap.size 0))) ?_ h2 (v:= .box i 0) ?_ aD (by rw[p8];exact ad)
 ·simp only[execOp,bw,Instr.alloc,Sem.run_bind,AX ld bp,Result.andThen_ok,newVar,newRow,run_newObj,Sem.run_pure]
  rfl
 ·simp only[aT]
  exact⟨ja w _ 1,tk _ _ _,rfl⟩
theorem ald {M0:Nat} {ops:Array Oper} {i:Nat} {ek:dM} (h:NU P M0 ops=some (i,ek)):∃o e inf,ops.toList=[o]∧o.op= .alloc e∧o.dst=some i∧o.guard=none∧i<M0∧P.info? e=some inf∧inf.zero=some (.slice none 0 0):=by
 unfold NU at h
 split at h
 ·rename_i o bz
  split at h
  ·rename_i e d h1 h2 aq
   split at h
   ·rename_i t hu bp
    split at h
    ·rename_i hi
     obtain⟨afm,_,he⟩:=map_some h
     simp only[Prod.mk.injEq]at he
     obtain⟨rfl,rfl⟩:=he
     cases ld:P.info? e with
     |none=>rw[ld]at bp;cases bp
     |some inf=>rw[ld]at bp;exact⟨o,e,inf,bz,h1,h2,aq,hi,ld,bp⟩
    ·cases h
   ·cases h
  ·cases h
 ·cases h
theorem ale {S:Nat→Option k0} {M0:Nat} (cg:M0≤N) {W:World} {ot:Nat→Option Obj} {id:Nat} {ops:Array Oper} {i j:Nat} {ek:dM} (Pk:NU P M0 ops=some (i,ek)) {Q:fi→St→Prop} {Ds:List Nat}
 (h:bd N ⟨W,ot⟩ aL R σ a w rd β) (hz:A7 ot Ds) (iq:∀D∈Ds,W.heap.size≤D) (ad:iM Γ S (.Ob i j ek) Q σ):(Code.region id ops false).wpIn (hR none) n P (Fi N W aL R Q) (fY a (Ds.map la)) w:=by
 obtain⟨o,e,inf,bz,bw,p8,bb,hi,ld,bp⟩:=ald Pk
 simp only[iM]at ad
 have fQ:ops.size=1:=by rw[←Array.length_toList,bz];rfl
 have au9:ops[0]? =some o:=by rw[←Array.getElem?_toList,bz];rfl
 refine wpIn_region ?_
 rw[fQ]
 show wpOpsIn (hR none) n P ops (Fi N W aL R Q) [0] _ _
 simp only[wpOpsIn,au9]
 have hw:Region.wanted o (yielded ops (fY a (Ds.map la)).tmps)=true:=by simp[Region.wanted,bb]
 rw[if_pos hw]
 have U1:=amd (j:=j) (ek:=ek) h bw p8 (Nat.lt_of_lt_of_le hi cg) ld bp ad (fun b7 w'=>jh N ⟨W,ot⟩ aL R (Q .normal) b7 w') (fun _ _ _=>False) fun σ' b7 w' rd' β' cE cZ=>⟨σ',rd',β',cE,cZ⟩
 exact Nd (r:=none) (n:=n) (ds:=Ds.map la) (fun c e=>by rw[bw]at e;cases e) (by rintro⟨_,_,h⟩;exact h) U1 (fun b7 w' v ms e et=>⟨Ds,ot,b7,rfl,hz,iq,et⟩) (fun _ _ h=>h.elim)
theorem ape (hm:P.follows .mixedOrders=true) (c6:ah P aL Γ) {S:Nat→Option k0} (jG:Fj P aL S) {M0:Nat} (cg:M0≤N) {W:World} :∀(c:Code) {c7:ji} {Q:fi→St→Prop} {σ:St} {a:Act} {w:World} {rd:Mem} {β:bU} {ot:Nat→Option Obj} {Ds:List Nat},yp P M0 c=some c7→
 bd N ⟨W,ot⟩ aL R σ a w rd β→A7 ot Ds→(∀D∈Ds,W.heap.size≤D)→iM Γ S c7 Q σ→c.wpIn (hR none) n P (Fi N W aL R Q) (fY a (Ds.map la)) w:=by
 intro c
 have plain:∀{c:Code} {lc:a3} {Q:fi→St→Prop} {σ:St} {a:Act} {w:World} {rd:Mem} {β:bU} {ot:Nat→Option Obj} {Ds:List Nat},er P M0 c=some lc→
  bd N ⟨W,ot⟩ aL R σ a w rd β→A7 ot Ds→(∀D∈Ds,W.heap.size≤D)→iM Γ S (.c lc) Q σ→c.wpIn (hR none) n P (Fi N W aL R Q) (fY a (Ds.map la)) w:=by
  intro c lc Q σ a w rd β ot Ds ae h hz iq ad
  simp only[iM]at ad
  exact wpIn_mono (RT (T:=fun _=>false) (av:=fun _=>undef) hm c6 cg c ae (fun _ _=>rfl) (fun t ae=>by cases ae) h ad) fun e b7 w' he=>he.toX hz iq
 induction c with
 |seq x y mE sQ=>
  intro c7 Q σ a w rd β ot Ds ae h hz iq ad
  simp only[yp]at ae
  split at ae
  ·rename_i l aH
   simp only[Option.some.injEq]at ae;subst ae
   exact plain aH h hz iq ad
  ·split at ae
   ·rename_i c7 gW aj hy
    simp only[Option.some.injEq]at ae;subst ae
    simp only[iM]at ad
    refine wpIn_seq (wpIn_mono (mE aj h hz iq ad) fun e b7 w' he=> ?_)
    obtain⟨DF,sR,dE,rfl,Bv,Bw,he⟩:=he
    cases e with
    |normal=>obtain⟨σ',rd',β',h1,h2⟩:=he;exact sQ hy h2 Bv Bw h1
    |exit id=>exact⟨DF,sR,dE,rfl,Bv,Bw,he⟩
    |ret=>exact⟨DF,sR,dE,rfl,Bv,Bw,he⟩
    |_=>exact he.elim
   ·cases ae
 |block id x cJ=>
  intro c7 Q σ a w rd β ot Ds ae h hz iq ad
  simp only[yp]at ae
  split at ae
  ·rename_i l aH
   simp only[Option.some.injEq]at ae;subst ae
   exact plain aH h hz iq ad
  ·obtain⟨c7,aj,rfl⟩:=map_some ae
   simp only[iM]at ad
   refine wpIn_block (wpIn_mono (cJ aj h hz iq ad) fun e b7 w' he=> ?_)
   obtain⟨DF,sR,dE,rfl,Bv,Bw,he⟩:=he
   cases e with
   |normal=>exact⟨DF,sR,dE,rfl,Bv,Bw,he⟩
   |exit j=>
    obtain⟨σ',rd',β',h1,h2⟩:=he
    simp only at h1
    unfold Exit.inBlock
    simp only
    split at h1
    ·rename_i aF;rw[if_pos aF];exact⟨DF,sR,dE,rfl,Bv,Bw,σ',rd',β',h1,h2⟩
    ·rename_i aF;rw[if_neg aF];exact⟨DF,sR,dE,rfl,Bv,Bw,σ',rd',β',h1,h2⟩
   |ret=>exact⟨DF,sR,dE,rfl,Bv,Bw,he⟩
   |_=>exact he.elim
 |region id ops d=>
  intro c7 Q σ a w rd β ot Ds ae h hz iq ad
  simp only[yp]at ae
  split at ae
  ·rename_i i ek Pk
   simp only[Option.some.injEq]at ae;subst ae
   cases d with
   |true=>simp at Pk
   |false=>exact ale cg (by simpa using Pk) h hz iq ad
  ·obtain⟨l,aH,rfl⟩:=map_some ae
   exact plain aH h hz iq ad
 |rangeFunc UR ps pc body _ _=>
  intro c7 Q σ a w rd β ot Ds ae h hz iq ad
  simp only[yp]at ae
  split at ae
  ·rename_i g b4 dJ h1 h2 aq
   split at ae
   ·rename_i Pb
    simp only[Option.some.injEq]at ae;subst ae
    exact amc hm c6 jG cg h1 h2 aq Pb h hz iq ad
   ·cases ae
  ·cases ae
 |_=>
  intro c7 Q σ a w rd β ot Ds ae h hz iq ad
  simp only[yp]at ae
  obtain⟨l,aH,rfl⟩:=map_some ae
  exact plain aH h hz iq ad
theorem Xh {W:World} {fn:Func} {tmps:Array Value} {ai9:Ending→World→Prop} :∀(Ds:List Nat) {ot:Nat→Option Obj} {σ:St} {a:Act} {w:World} {rd:Mem} {β:bU},A7 ot Ds→(∀D∈Ds,W.heap.size≤D)→bd N ⟨W,ot⟩ aL R σ a w rd β→
 (∀(w':World) (sR:Nat→Option Obj),bd N ⟨W,sR⟩ aL R σ a w' rd β→∃v,(results fn tmps).run P w'= .ok v w'∧ai9 (.returned v) w')→LeavesInM (hR none) n P fn tmps ai9 (Ds.map la) .returning w
 |[],ot,σ,a,w,rd,β,_,_,h,ar=>ar w ot h
 |D::Ds,ot,σ,a,w,rd,β,hz,iq,h,ar=>by
  have qC:=hz.2 D (by simp)
  have aw:=(h.dH D _ qC).2
  refine⟨(fun e=>by cases e),.inl ⟨D,w.putObj D (.deferred none),rfl,run_takeDeferred aw,?_⟩⟩
  have hnd:=List.nodup_cons.1 hz.1
  refine Xh (W:=W) Ds (ot:=mF ot D (.deferred none)) ⟨hnd.2,fun Wo Pl=> ?_⟩ (fun Wo Pl=>iq Wo (by simp[Pl])) (h.Oc aw (QH _) (QH _) (iq D (by simp))) ar
  simp only[mF]
  split
  ·rename_i e;subst e;exact absurd Pl hnd.1
  ·exact hz.2 Wo (by simp[Pl])
theorem aq7 (hm:P.follows .mixedOrders=true) {B:Mem} (c6:ah P B Γ) {S:Nat→Option k0} (jG:Fj P B S) {f:Nat} {fn:Func} (ga:P.funcs[f]? =some fn) (vN:(fn.name== "runtime.NumGoroutine")=false) {c7:ji} {rs:List bo} (hf:IG P f=some (c7,rs)) {C:br}
 (h:∀ds,C.pre ds→zN Γ S c7 rs ds fun d=>d=C.res ds) (bz:C.own=false:=by rfl):l8 P B f C:=by
 simp only[IG,ga]at hf
 split at hf
 ·rename_i c ay
  split at hf
  ·rename_i l o9 ae fD
   simp only[Option.some.injEq,Prod.mk.injEq]at hf
   obtain⟨rfl,rfl⟩:=hf
   refine⟨⟨fn,ga,vN,by rw[ay];rfl⟩,fun ds aQ w rd vs ai l9 fz=> ?_⟩
   have ad:=h ds aQ
   unfold zN at ad
   refine(callsIn_wide (n:=0)).1 (callsIn_of_wp_marks (F:=hR none) ga ay trivial ?_ rfl)
   have Dp:w.base.heap.size=w.heap.size:=rfl
   have vb:=MH (N:=(vs++Array.replicate (fn.ntmps - vs.size) undef).size) l9 fz (fn.ntmps - vs.size) rfl
   have ava:Fj P rd S:=fun f C e=>⟨(jG f C e).1,fun ds aQ w gy dJ l M J Jx aw=>(jG f C e).2 ds aQ w gy dJ l M J Jx (ai.trans aw)⟩
   have aj:=ape (n:=0) (Ds:=[]) hm (c6.mono ai) ava (M0:=fn.ntmps) (by simp;omega) c ae (show bd _ ⟨w,fun _=>none⟩ rd _ _ _ w rd _ from vb) ⟨List.nodup_nil,fun D qC=>by cases qC⟩ (fun D qC=>by cases qC) ad
   rw[List.map_nil,zy]at aj
   refine wpIn_mono aj ?_
   rintro e a w' ⟨Ds,ot,dE,rfl,hz,iq,he⟩
   have done:jh (vs++Array.replicate (fn.ntmps - vs.size) undef).size ⟨w,ot⟩ rd (fun _=>none) (fun σ=>kJ o9 σ fun d=>d=C.res ds) dE w'→
    LeavesInM (hR none) 0 P fn (fY dE (Ds.map la)).tmps (fun e w'=>∃v,e= .returned v∧Below w.heap.size w w'∧Bt C rd w w' (C.res ds) v) (fY dE (Ds.map la)).defers .returning w':=by
    rintro⟨σ,rd',β,ar,dq⟩
    have jy:(fY dE (Ds.map la)).defers=Ds.map la:=by simp[fY,dq.defers]
    rw[jy]
    refine Xh (W:=w) Ds hz iq dq fun w' sR dq=> ?_
    show∃v,(results fn dE.tmps).run P w'= .ok v w'∧_
    unfold kJ at ar
    split at ar
    ·rename_i lA aH
     obtain⟨JE,ar⟩:=ar
     split at ar
     ·rename_i uq hq
      obtain⟨us,bh,bB⟩:=Ea dq fD aH
      have uu:=toDs_rep dq (S:=jn β lA) lA us uq hq bB fun i r aP hi ec fC=>⟨i,r,hi,ec,fC⟩
      have hle:b3 (plus w' (jn β lA) rd') (ke w w' rd):=fun aP v e=>by
       unfold ke
       split
       ·rename_i bl
        by_cases aE:jn β lA aP
        ·exfalso
         obtain⟨i,r,hi,ec,a6⟩:=aE
         obtain⟨b,aj,_,_,gA,_⟩:=dq.box i r ec
         have h1:w.heap.size≤r.bL:=(gA (AW lA JE i b hi aj)).1
         have:=a6.1
         omega
        ·rw[x9 aE]at e
         exact dq.aL aP v e bl
       ·exact yd dq.dg aP v e
      refine⟨_,?_,_,rfl,dq.cO.toBelow,fun _=>ar▸Rs (bP.mono hle _ _ uu),fun ay=>by rw[bz]at ay;cases ay⟩
      have vl:=H5 (P:=P) (w:=w') fn.results.toList bh
      unfold results
      rw[Array.mapM_eq_mapM_toList]
      simp only[Sem.run_bind,Sem.run_map]
      exact congrArg (fun r:Result (List Value)=>(r.andThen fun a w'=>Result.ok a.toArray w').andThen fun(a:Array Value) w'=>Sem.run P (pure (if h:a.size=1 then a[0]else Value.tuple a)) w') vl
     ·exact ar.elim
    ·exact ar.elim
   cases e with
   |normal=>exact done he
   |ret=>exact done he
   |exit id=>obtain⟨_,_,_,h1,_⟩:=he;exact h1.elim
   |_=>exact he.elim
  ·cases hf
 ·cases hf
end
def St.keeps (σ:St) (i:Nat):Bool:=match σ.aA i with
 |some b=> !b.cx && b.c.pure
 |none=>false
def St.still (σ:St):St:=⟨fun t=>if (σ.af t).ids.all σ.keeps=true then σ.af t else .any,fun i=>if σ.keeps i=true then (σ.aA i).map (fun b=>⟨b.cx,true,b.c⟩)else none⟩
structure gv where
 k:Nat
 b:Bool
def KL (E:Nat→Option (List D)) (M:Nat) (dst:Option Nat) (y:gv) (σ:St) (K:gv→St→Prop) (vs:List ag):Prop:=
 y.b=true∧ag.g8 vs=true∧match toDs σ vs with
   |some ds=>E y.k=some ds∧(y.k+1<M→K ⟨y.k+1,true⟩ (σ.still.put dst (.d (.bool true))))∧K ⟨y.k,false⟩ (σ.still.put dst (.d (.bool false)))
   |none=>False
def GQ (σ:St):bx→Option (Nat×List bk)
 | .hJ x bm=>match σ.aU x with
   | .dv l=>some (l,bm)
   |_=>none
 |_=>none
def hL (Γ:Env) (E:Nat→Option (List D)) (M l:Nat) (K:gv→St→Prop):List bW→gv→St→Prop
 |[],y,σ=>K y σ
 |o::r,y,σ=>match GQ σ o.op with
  |some (ky,bm)=>ky=l∧o.guard=none∧KL E M o.dst y σ (hL Γ E M l K r) (cr σ bm)
  |none=>guarded σ o.guard (cG Γ o.dst σ (hL Γ E M l K r y) o.op) (hL Γ E M l K r y (σ.put o.dst .dB))
def fS (Γ:Env) (E:Nat→Option (List D)) (M l:Nat):a3→(fi→gv→St→Prop)→gv→St→Prop
 | .skip,Q,y,σ=>Q .normal y σ
 | .cC ops,Q,y,σ=>hL Γ E M l (Q .normal) ops y σ
 | .oW pre yS,Q,y,σ=>di Γ (hc Γ (Q .normal y) yS) pre (pT σ pre)
 | .seq a b,Q,y,σ=>fS Γ E M l a (fun e y s=>match e with| .normal=>fS Γ E M l b Q y s|e=>Q e y s) y σ
 | .cond c a b,Q,y,σ=>match σ.aU c with
   | .d (.bool t)=>(t=true→fS Γ E M l a Q y σ)∧(t=false→fS Γ E M l b Q y σ)
   |_=>False
 | .block id a,Q,y,σ=>fS Γ E M l a (fun e y s=>match e with| .exit j=>if j=id then Q .normal y s else Q (.exit j) y s|e=>Q e y s) y σ
 | .loop a,Q,y,σ=>∃(I:gv→St→Prop) (eT:gv→St→Nat),I y σ∧∀z s,I z s→fS Γ E M l a (fun e fU ef=>match e with| .normal=>I fU ef∧eT fU ef<eT z s|e=>Q e fU ef) z s
 | .exit id,Q,y,σ=>Q (.exit id) y σ
 | .ret,Q,y,σ=>Q .ret y σ
def rO (l:Nat) (ds:List D):St:=⟨fun t=>match t with|0=> .dv l|t+1=>match ds[t]? with|some d=>c3 d|none=> .dB,fun _=>none⟩
def zO (Γ:Env) (E:Nat→Option (List D)) (M l:Nat) (lc:a3) (ds:List D):Prop:=
 fS Γ E M l lc (fun e y _=>(match e with| .exit _=>False|_=>True)∧(y.b=true→E y.k=none)) ⟨0,true⟩ (rO l ds)
end RV
namespace RV
open Go Go.RowKit
section
variable {N:Nat} {aR:e3} {aL pd:Mem} {R:bU} {σ σ':St} {a:Act} {w w':World} {rd rd':Mem} {β β':bU} {P:Program} {Γ:Env} {n:Nat} {ops:Array Oper}
mutual
theorem aaA:∀v:ag,v.eh (fun i=>i)=v
 | .d _=>rfl
 | .agg cs=>by simp only[ag.eh,Ng cs]
 | .box _ _=>rfl
 | .own _ _ _=>rfl
 | .eo _ _ _=>rfl
 | .mp _=>rfl
 | .dk _ x y=>by simp only[ag.eh,Ng x,Ng y]
 | .dv _=>rfl
 | .dB=>rfl
 | .any=>rfl
theorem Ng:∀vs:List ag,ag.g1 (fun i=>i) vs=vs
 |[]=>rfl
 |v::vs=>by simp only[ag.g1,aaA v,Ng vs]
end
def zJ (σ:St) (β:bU):bU:=fun i=>if σ.keeps i=true then (β i).map cY.part else none
theorem Ig {i:Nat} {r':cY} (h:zJ σ β i=some r'):σ.keeps i=true∧∃r,β i=some r∧r'=r.part:=by
 unfold zJ at h
 split at h
 ·rename_i ad
  cases e:β i with
  |none=>rw[e]at h;cases h
  |some r=>rw[e]at h;simp only[Option.map_some,Option.some.injEq]at h;exact⟨ad,r,rfl,h.symm⟩
 ·cases h
theorem QS {c:BC} (h:c.pure=true):c.isMap=false:=by cases c<;>first|rfl|cases h
theorem Ih {i:Nat} (h:σ.keeps i=true):∃b,σ.aA i=some b∧b.cx=false∧b.c.pure=true:=by
 unfold St.keeps at h
 split at h
 ·rename_i b aw
  simp only[Bool.and_eq_true,Bool.not_eq_true']at h
  exact⟨b,aw,h.1,h.2⟩
 ·cases h
theorem XV (h:bd N aR aL R σ a w rd β) {cP:World} (hm:b3 rd cP.cell?) (ad:∀i r,σ.keeps i=true→β i=some r→cP.heap[r.bL]? =w.heap[r.bL]?):bd N cP.base rd (zJ σ β) σ.still a cP rd (zJ σ β)where
 size:=h.size
 defers:=h.defers
 cO:=ih.refl _ _
 dH:=fun k o ad=>by cases ad
 dg:=hm
 dR:=b3.refl _
 aL:=fun _ _ e _=>e
 eR:=fun i r b hi aj bp aP a6=>by
  obtain⟨gl,ia,h0,rfl⟩:=Ig hi
  obtain⟨cK,gQ,hf,_⟩:=Ih gl
  exact h.eR i ia cK h0 gQ hf aP (cY.CB a6)
 eX:=fun t=>by
  simp only[St.still]
  split
  ·rename_i oY
   have:=ZW (g:=fun i=>i) (β':=zJ σ β) _ _ (fun i hi r ar=> ?_) (h.eX t)
   ·rwa [aaA]at this
   ·have gl:=List.all_eq_true.1 oY i (ZX _ i hi)
    exact⟨r.part,by simp only[zJ,if_pos gl,ar,Option.map_some],rfl,rfl,rfl,rfl⟩
  ·simp only[aT]
 box:=fun i r hi=>by
  obtain⟨gl,ia,h0,rfl⟩:=Ig hi
  obtain⟨cK,gQ,hf,jv⟩:=Ih gl
  obtain⟨b,aj,ay,aQ,bh,bB⟩:=h.box i ia h0
  rw[gQ]at aj;simp only[Option.some.injEq]at aj;subst aj
  have sO:=ad i ia gl h0
  refine⟨⟨cK.cx,true,cK.c⟩,by simp only[St.still,if_pos gl,gQ,Option.map_some],?_,?_,(fun e=>by cases e),fun _=>⟨hi,rfl⟩⟩
  ·have KJ:e7 cP rd (zJ σ β) ia cK.c:=ay.mono (b3.refl _) (fun j _ _=>th sO) (fun cs e v aB u H=>by
    rw[e]at jv
    exact aT.congr v u (fun j aF=>by
     have h1:=Ei cs jv j
     have h2:ag.df j cs=true:=MT aB aF
     rw[h1]at h2;cases h2) H) (fun _=>sO)
   cases e:cK.c with
   |_=>rw[e]at KJ;exact KJ
  ·obtain⟨arr,t,cx,dP,fw,gF,_⟩:=(aQ.x8 sO).cells (QS jv)
   exact dZ.of ⟨arr,t,cx,dP,fw,gF,fun e=>by cases e⟩ (QS jv)
 eM:=fun i b aw hi=>by
  simp only[St.still]at aw
  split at aw
  ·rename_i gl
   obtain⟨cK,gQ,_,_⟩:=Ih gl
   rw[gQ]at aw
   simp only[Option.map_some,Option.some.injEq]at aw
   subst aw
   have aJ:β i=none:=by
    cases e:β i with
    |none=>rfl
    |some r=>simp only[zJ,if_pos gl,e,Option.map_some]at hi;cases hi
   exact⟨fun _=>hi,(h.eM i cK gQ aJ).2⟩
  ·cases aw
 eE:=fun i j az h9 afn hi aF aP a6 aw=>by
  obtain⟨_,bA,h1,rfl⟩:=Ig hi
  obtain⟨_,bX,h2,rfl⟩:=Ig aF
  exact h.eE i j bA bX afn h1 h2 aP (cY.CB a6) (cY.CB aw)
noncomputable def tO (σ:St) (β:bU) (w:World):Nat→Option Obj:=fun k=>open Classical in if∃i r,σ.keeps i=true∧β i=some r∧r.bL=k then w.heap[k]? else none
def NV (R:bU) (p:Nat→Option Obj) (w:World):Prop:=∀i r,R i=some r→p r.bL≠none∧r.off=0∧∃arr t,w.heap[r.bL]? =some (.cells arr t (0,0))∧arr.size=r.len
def Wp (N M:Nat) (aL:Mem) (J:Nat→(Nat→Option Obj)→Mem→World→Prop) (Jx:(Nat→Option Obj)→World→Prop) (y:gv) (σ:St) (a:Act) (w:World):Prop:=
 ∃(W:World) (pd rd:Mem) (β R:bU) (p:Nat→Option Obj),bd N W.base pd R σ a w rd β∧b3 aL pd∧NV R p W∧(y.b=true→J y.k p pd W∧y.k<M)∧(y.b=false→Jx p W)
def HG (N M:Nat) (aL:Mem) (J:Nat→(Nat→Option Obj)→Mem→World→Prop) (Jx:(Nat→Option Obj)→World→Prop) (K:gv→St→Prop) (a:Act) (w:World):Prop:=
 ∃(y:gv) (σ:St),K y σ∧Wp N M aL J Jx y σ a w
def as6 (N M:Nat) (aL:Mem) (J:Nat→(Nat→Option Obj)→Mem→World→Prop) (Jx:(Nat→Option Obj)→World→Prop) (Q:fi→gv→St→Prop):Exit→Act→World→Prop
 | .normal,a,w=>HG N M aL J Jx (Q .normal) a w
 | .exit id,a,w=>HG N M aL J Jx (Q (.exit id)) a w
 | .ret,a,w=>HG N M aL J Jx (Q .ret) a w
 |_,_,_=>False
theorem M1 {W:World} {pd:Mem} {p:Nat→Option Obj} (h:bd N W.base pd R σ a w rd β) (fJ:NV R p W) {i:Nat} {r:cY} (gl:σ.keeps i=true) (hi:β i=some r):r.off=0∧∃arr t,w.heap[r.bL]? =some (.cells arr t (0,0))∧arr.size=r.len:=by
 obtain⟨b,aj,_,aQ,h1,h2⟩:=h.box i r hi
 obtain⟨cK,gQ,_,jv⟩:=Ih gl
 rw[gQ]at aj;simp only[Option.some.injEq]at aj;subst aj
 cases he:cK.ext with
 |false=>
  obtain⟨arr,t,cx,dP,_,_,uJ⟩:=aQ.cells (QS jv)
  obtain⟨eZ,gU,rfl⟩:=uJ (h1 he).2
  exact⟨eZ,arr,t,dP,gU⟩
 |true=>
  obtain⟨_,f2,arr,t,f3,f4⟩:=fJ i r (h2 he).1
  refine⟨f2,?_⟩
  have bl:r.bL<W.base.heap.size:=(Array.getElem?_eq_some_iff.1 f3).1
  rcases h.cO.block _ bl with e|⟨c,s4,cx,c',aN,aX,cc,_⟩|⟨es,q,es',qy,aN,_⟩
  ·exact⟨arr,t,e.trans f3,f4⟩
  ·have f3':W.base.heap[r.bL]? =some (.cells arr t (0,0)):=f3
   rw[f3']at aN
   simp only[Option.some.injEq,Obj.cells.injEq]at aN
   obtain⟨rfl,rfl,rfl⟩:=aN
   exact⟨c',t,aX,cc.trans f4⟩
  ·have f3':W.base.heap[r.bL]? =some (.cells arr t (0,0)):=f3
   rw[f3']at aN;cases aN
theorem M3 {W:World} {pd:Mem} {p:Nat→Option Obj} (h:bd N W.base pd R σ a w rd β) (fJ:NV R p W):
 C2 p W (tO σ β w) w∧∀aP v,rd aP=some v→tO σ β w aP.block=none:=by
 refine⟨⟨h.cO.os,h.cO.tape,h.cO.output,h.cO.size,fun k ad aJ=> ?_,fun k o bz=> ?_⟩,fun aP v e=> ?_⟩
 ·have cE:k<W.base.heap.size:=ad
  rcases h.cO.block k cE with e|⟨c,t,cx,c',aN,aX,cc,cN⟩|⟨_,_,_,_,_,_,j,r,aF,ar⟩
  ·exact e
  ·have:c'=c:=Array.ext_getElem? fun o=>cN o fun j r aF ar=>(fJ j r aF).1 (by rw[←ar.1];exact aJ)
   rw[aX,this]
   exact aN.symm
  ·exact absurd (by rw[ar];exact aJ) (fJ j r aF).1
 ·unfold tO at bz
  split at bz
  ·rename_i hex
   obtain⟨i,r,gl,hi,rfl⟩:=hex
   obtain⟨_,arr,t,dP,_⟩:=M1 h fJ gl hi
   have jw:=bz
   rw[dP]at jw
   simp only[Option.some.injEq]at jw
   refine⟨bz,⟨arr,t,_,jw.symm⟩,fun aJ=> ?_⟩
   obtain⟨b,aj,_,aQ,h1,h2⟩:=h.box i r hi
   cases he:b.ext with
   |false=>exact(h1 he).1
   |true=>exact absurd aJ (fJ i r (h2 he).1).1
  ·cases bz
 ·cases q:tO σ β w aP.block with
  |none=>rfl
  |some o=>
   exfalso
   unfold tO at q
   split at q
   ·rename_i hex
    obtain⟨i,r,gl,hi,aw⟩:=hex
    obtain⟨z,arr,t,dP,fw⟩:=M1 h fJ gl hi
    obtain⟨cK,gQ,hf,_⟩:=Ih gl
    have hw:=h.dg aP v e
    have fC:r.has aP:=by
     refine⟨aw.symm,.inr ?_⟩
     rw[World.cell?,←aw,dP]at hw
     simp only at hw
     split at hw
     ·cases hw
     ·have:=(Array.getElem?_eq_some_iff.1 hw).1
      omega
    rw[h.eR i r cK hi gQ hf aP fC]at e
    cases e
   ·cases q
section
variable {E:Nat→Option (List D)} {M l:Nat} {J:Nat→(Nat→Option Obj)→Mem→World→Prop} {Jx:(Nat→Option Obj)→World→Prop}
 (s6:∀k p m cf dx eg cP,J k p m cf→C2 p cf dx cP→b3 m eg→b3 eg cP.cell?→(∀aP v,eg aP=some v→aP.block<cf.heap.size→m aP=some v)→(∀aP v,eg aP=some v→dx aP.block=none)→J k dx eg cP)
 (eC:∀k p m cf x (vs:Array Value),k<M→E k=some x→J k p m cf→bP m x vs.toList→∀n,YieldAt (hR none) n P l vs cf fun e cP=>
    b3 m cP.cell?∧(∀b o,p b=some o→cP.heap[b]? =some o)∧((e= .returned (.bool true)∧J (k+1) p m cP∧k+1<M)∨(e= .returned (.bool false)∧Jx p cP)))
include s6 eC
theorem Jp (c6:ah P aL Γ) {M0:Nat} (cg:M0≤N) {K:gv→St→Prop} {Q:Exit→Act→World→Prop} (cw:∀a w,HG N M aL J Jx K a w→Q .normal a w):
 ∀(is:List Nat) (rM:List bW),lg (fun i lo=>∃o,ops[i]? =some o∧se P M0 ops o=some lo) is rM→(∀(i:Nat) (o:Oper),ops[i]? =some o→∀c,o.op≠ .defer c)→
 ∀(y:gv) (σ:St) (a:Act) (w:World),Wp N M aL J Jx y σ a w→hL Γ E M l K rM y σ→wpOpsIn (hR none) n P ops Q is a w
 |[],_,h,_=>fun y σ a w ay ad=>by
  cases h
  exact cw _ _ ⟨_,_,ad,ay⟩
 |i::is,_,h,jy=>fun y σ a w avb ad=>by
  cases h with
  |cons hi ar=>
   obtain⟨o,bz,Dz⟩:=hi
   obtain⟨lo,g,h1,h2,aq,rfl⟩:=H8 Dz
   have aD:=Mp cg aq
   obtain⟨W,pd,rd,β,R,p,ay,hm,fJ,GR,KM⟩:=avb
   simp only[hL]at ad
   simp only[wpOpsIn,bz]
   split at ad
   ·
    rename_i ky bm hy
    obtain⟨afo,bb,aw,jv,ad⟩:=ad
    have as7:l=ky:=afo.symm
    subst as7
    try simp only at bb
    subst bb
    have avc:o.guard=none:=by
     unfold I3 at h2
     split at h2
     ·rename_i aJ;exact aJ
     ·split at h2
      ·simp at h2
      ·cases h2
    have hw:Region.wanted o (yielded ops a.tmps)=true:=by simp[Region.wanted,avc]
    rw[if_pos hw]
    try simp only at hy
    have avd:∃x,lo= .hJ x bm∧σ.aU x= .dv l:=by
     unfold GQ at hy
     split at hy
     ·rename_i x S8
      split at hy
      ·rename_i azu aH
       simp only[Option.some.injEq,Prod.mk.injEq]at hy
       obtain⟨rfl,rfl⟩:=hy
       exact⟨x,rfl,aH⟩
      ·cases hy
     ·cases hy
    obtain⟨x,rfl,Ph⟩:=avd
    obtain⟨aAl,S8,c1,bw,ave,has⟩:=QE h1
    have cQ:=ez ay ave
    rw[Ph]at cQ
    simp only[aT]at cQ
    split at ad
    rotate_left
    ·exact ad.elim
    rename_i uq hq
    obtain⟨eO,gB,avf⟩:=ad
    obtain⟨avg,UU⟩:=GR aw
    obtain⟨KH,UT⟩:=M3 ay fJ
    have avh:J y.k (tO σ β w) rd w:=s6 _ _ _ _ _ _ _ avg KH ay.dR ay.dg (fun aP v e aH=>ay.aL aP v e aH) UT
    have fz:bP rd uq (S8.map a.eval).toList:=by
     have:=AR ay jv hq (by simpa using qP ay has)
     rw[Array.toList_map]
     exact this
    obtain⟨fn,tmps,assign,body,avi,O5⟩:=eC _ _ _ _ _ _ UU eO avh fz (n - 1)
    have hex:(execOp a.eval o).run P w= .ok (.round l fn tmps assign body) w:=by
     simp[execOp,bw,resolve,cQ,Deferred.ofValue,invoke,avi]
    refine⟨fun _ _=>trivial,?_⟩
    rw[show (hR none).round=none from rfl,Oper.semAt_none,hex,Oper.uponIn_round]
    refine⟨fun aD=>by simp[hR,Fence.wide]at aD,O5.mono fun e cP he=> ?_⟩
    obtain⟨DE,afp,he⟩:=he
    have abO:b3 aL rd:=hm.trans ay.dR
    have afq:∀i r,σ.keeps i=true→β i=some r→cP.heap[r.bL]? =w.heap[r.bL]? :=fun i r gl hi=>by
     obtain⟨_,arr,t,dP,_⟩:=M1 ay fJ gl hi
     have:tO σ β w r.bL=some (.cells arr t (0,0)):=by unfold tO;rw[if_pos ⟨i,r,gl,hi,rfl⟩];exact dP
     rw[afp _ _ this,dP]
    have Pm:NV (zJ σ β) (tO σ β w) cP:=fun i r' hi'=>by
     obtain⟨gl,r,hi,rfl⟩:=Ig hi'
     obtain⟨z,arr,t,dP,fw⟩:=M1 ay fJ gl hi
     have:tO σ β w r.bL=some (.cells arr t (0,0)):=by unfold tO;rw[if_pos ⟨i,r,gl,hi,rfl⟩];exact dP
     exact⟨by show tO σ β w r.bL≠none;rw[this];simp,z,arr,t,afp _ _ this,fw⟩
    rcases he with ⟨rfl,avj,vI⟩|⟨rfl,g2⟩
    ·exact Jp c6 cg cw is _ ar jy _ _ _ _ ⟨cP,_,_,_,_,_,(XV ay DE afq).put aD (by simp only[aT,bj]),abO,Pm,fun _=>⟨avj,vI⟩,fun e=>by cases e⟩ (gB vI)
    ·exact Jp c6 cg cw is _ ar jy _ _ _ _ ⟨cP,_,_,_,_,_,(XV ay DE afq).put aD (by simp only[aT,bj]),abO,Pm,(fun e=>by cases e),fun _=>g2⟩ avf
   ·rcases Me ay h2 ad with ⟨hw,ad⟩|⟨hw,ad⟩
    ·rw[if_pos hw]
     have U1:=Q8 (c6.mono hm) ay h1 aD ad (fun b7 w'=>jh N W.base pd R (hL Γ E M l K _ y) b7 w') (fun _ _ _=>False) fun σ' b7 w' rd' β' cE cZ=>⟨σ',rd',β',cE,cZ⟩
     have:=Nd (r:=none) (n:=n) (ds:=[]) (Q':=Q) (next':=wpOpsIn (hR none) n P ops Q is) (jy i o bz) (by rintro⟨_,_,h⟩;exact h) U1 (fun b7 w' v ms e et=> ?_) (fun _ _ h=>h.elim)
     ·rw[zy]at this;exact this
     ·rw[zy]
      obtain⟨σ',rd',β',cE,cZ⟩:=et
      exact Jp c6 cg cw is _ ar jy _ _ _ _ ⟨W,_,_,_,_,_,cZ,hm,fJ,GR,KM⟩ cE
    ·rw[if_neg (by rw[hw];simp)]
     exact⟨fun _ _=>trivial,Jp c6 cg cw is _ ar jy _ _ _ _ ⟨W,_,_,_,_,_,ay.put aD (by simp only[aT]),hm,fJ,GR,KM⟩ ad⟩
theorem aq8 (hm:P.follows .mixedOrders=true) (c6:ah P aL Γ) {M0:Nat} (cg:M0≤N):∀(c:Code) {lc:a3} {Q:fi→gv→St→Prop} {y:gv} {σ:St} {a:Act} {w:World},er P M0 c=some lc→
 Wp N M aL J Jx y σ a w→fS Γ E M l lc Q y σ→c.wpIn (hR none) n P (as6 N M aL J Jx Q) a w:=by
 intro c
 induction c with
 |skip=>
  intro lc Q y σ a w ae h ad
  simp only[er,Option.some.injEq]at ae;subst ae
  exact wpIn_skip ⟨y,σ,ad,h⟩
 |region id ops drawn=>
  intro lc Q y σ a w ae h ad
  obtain⟨ky,aH,⟨rfl,rfl⟩|⟨rfl,_,_,e⟩⟩:=QQ ae
  ·simp only[fS]at ad
   exact wpIn_region (Jp s6 eC c6 cg (fun _ _ h=>h) _ _ (H3 aH) (Zf aH) _ _ _ _ h ad)
  ·have cE:cb Γ lc (fun e s=>Q e y s) σ:=by rw[e]at ad⊢;exact ad
   obtain⟨W,pd,rd,β,R,p,ay,aw,fJ,h1,h2⟩:=h
   have:=Yy (r:=none) (n:=n) (ds:=[]) (T:=fun _=>false) (av:=fun _=>undef) hm (c6.mono aw) cg ae (fun _ _=>rfl) (fun t ae=>by cases ae) ay cE
   rw[zy]at this
   refine wpIn_mono this fun e b7 w' he=> ?_
   obtain⟨dE,rfl,_,he⟩:=he
   rw[zy]
   cases e with
   |normal=>obtain⟨σ',rd',β',bh,bB⟩:=he;exact⟨y,σ',bh,W,pd,rd',β',R,p,bB,aw,fJ,h1,h2⟩
   |exit j=>obtain⟨σ',rd',β',bh,bB⟩:=he;exact⟨y,σ',bh,W,pd,rd',β',R,p,bB,aw,fJ,h1,h2⟩
   |ret=>obtain⟨σ',rd',β',bh,bB⟩:=he;exact⟨y,σ',bh,W,pd,rd',β',R,p,bB,aw,fJ,h1,h2⟩
   |_=>exact he.elim
 |seq x z mE U2=>
  intro lc Q y σ a w ae h ad
  simp only[er]at ae
  split at ae
  ·rename_i c7 Qa aj bp
   simp only[Option.some.injEq]at ae;subst ae
   simp only[fS]at ad
   refine wpIn_seq (wpIn_mono (mE aj h ad) fun e b7 w' he=> ?_)
   cases e with
   |normal=>obtain⟨eY,σ',bh,bB⟩:=he;exact U2 bp bB bh
   |exit id=>exact he
   |ret=>exact he
   |_=>exact he.elim
  ·cases ae
 |cond Pa x z mE U2=>
  intro lc Q y σ a w ae h ad
  simp only[er]at ae
  split at ae
  ·rename_i aU c7 Qa ay aj bp
   simp only[Option.some.injEq]at ae;subst ae
   simp only[fS]at ad
   have ar:∃rd β,aT rd β (σ.aU aU) (a.eval Pa):=by
    obtain⟨W,pd,rd,β,R,p,dq,_⟩:=h
    exact⟨rd,β,ez dq ay⟩
   obtain⟨rd,β,ar⟩:=ar
   split at ad
   ·rename_i t DD
    rw[DD]at ar
    simp only[aT,bj]at ar
    cases t with
    |true=>exact wpIn_cond_true ar (mE aj h (ad.1 rfl))
    |false=>exact wpIn_cond_false ar (U2 bp h (ad.2 rfl))
   ·exact ad.elim
  ·cases ae
 |block id x cJ=>
  intro lc Q y σ a w ae h ad
  simp only[er]at ae
  obtain⟨c7,aj,rfl⟩:=map_some ae
  simp only[fS]at ad
  refine wpIn_block (wpIn_mono (cJ aj h ad) fun e b7 w' he=> ?_)
  cases e with
  |normal=>exact he
  |exit j=>
   obtain⟨eY,σ',bh,bB⟩:=he
   simp only at bh
   unfold Exit.inBlock
   simp only
   split at bh
   ·rename_i aF;rw[if_pos aF];exact⟨eY,σ',bh,bB⟩
   ·rename_i aF;rw[if_neg aF];exact⟨eY,σ',bh,bB⟩
  |ret=>exact he
  |_=>exact he.elim
 |loop x cJ=>
  intro lc Q y σ a w ae h ad
  simp only[er]at ae
  obtain⟨c7,aj,rfl⟩:=map_some ae
  simp only[fS]at ad
  obtain⟨I,eT,h0,eP⟩:=ad
  refine Xg (fun m a w=>HG N M aL J Jx (fun y s=>I y s∧eT y s=m) a w) (eT y σ) ⟨y,σ,⟨h0,rfl⟩,h⟩ ?_
  rintro m a w ⟨y,s,⟨bh,rfl⟩,h⟩
  refine wpIn_mono (cJ aj h (eP y s bh)) fun e b7 w' he=> ?_
  cases e with
  |normal=>
   obtain⟨eY,ef,⟨HD,P7⟩,Wq⟩:=he
   exact⟨eT eY ef,P7,eY,ef,⟨HD,rfl⟩,Wq⟩
  |exit j=>exact he
  |ret=>exact he
  |_=>exact he.elim
 |exit id=>
  intro lc Q y σ a w ae h ad
  simp only[er,Option.some.injEq]at ae;subst ae
  exact wpIn_exit ⟨y,σ,ad,h⟩
 |ret=>
  intro lc Q y σ a w ae h ad
  simp only[er,Option.some.injEq]at ae;subst ae
  exact wpIn_ret ⟨y,σ,ad,h⟩
 |_=>intro lc Q y σ a w ae h ad;cases ae
end
theorem apf {l:Nat} {ds:List D} {dJ:Array Value} (ar:bP rd ds dJ.toList) (k:Nat) (t:Nat):
 aT rd β ((rO l ds).af t) ((#[Value.func (.yield l) #[] #[]]++dJ++Array.replicate k undef).getD t undef):=by
 rw[Array.append_assoc,Array.getD_eq_getD_getElem?]
 cases t with
 |zero=>
  rw[Array.getElem?_append_left (by simp)]
  simp[rO,aT]
 |succ t=>
  rw[Array.getElem?_append_right (by simp)]
  have:=Y8 (β:=β) ar k t
  rw[Array.getD_eq_getD_getElem?]at this
  rw[show t+1 - (#[Value.func (.yield l) #[] #[]]:Array Value).size=t by simp]
  show aT rd β ((uo ds).af t) _
  exact this
theorem aq9 (hm:P.follows .mixedOrders=true) {B:Mem} (c6:ah P B Γ) {f:Nat} {fn:Func} (ga:P.funcs[f]? =some fn) (vN:(fn.name== "runtime.NumGoroutine")=false) {lc:a3} (hf:qY P f=some (lc,[])) {C:k0}
 (h:∀ds,C.pre ds→∀M l,zO Γ (C.seq ds) M l lc ds):afh P B f C:=by
 simp only[qY,ga]at hf
 split at hf
 ·rename_i c ay
  split at hf
  ·rename_i lN o9 ae fD
   simp only[Option.some.injEq,Prod.mk.injEq]at hf
   obtain⟨rfl,rfl⟩:=hf
   refine⟨⟨fn,ga,vN,by rw[ay];rfl⟩,fun ds aQ w rd dJ l M J Jx ai l9 fz cp avk s6 KI eC=> ?_⟩
   have ad:=h ds aQ M l
   unfold zO at ad
   refine(callsIn_wide (n:=0)).1 (callsIn_of_wp (F:=hR none) ga ay trivial ?_ rfl)
   obtain⟨vs,BR⟩:∃vs,vs= #[Value.func (.yield l) #[] #[]]++dJ:=⟨_,rfl⟩
   rw[←BR]
   have vb:bd (vs++Array.replicate (fn.ntmps - vs.size) undef).size w.base rd (fun _=>none) (rO l ds) { tmps:=vs++Array.replicate (fn.ntmps - vs.size) undef,defers:=[] } w rd (fun _=>none):= {
    size:=rfl
    defers:=rfl
    cO:=ih.refl _ _
    dH:=fun k o ad=>by cases ad
    dg:=l9
    dR:=b3.refl _
    aL:=fun _ _ e _=>e
    eR:=fun i r b hi=>by cases hi
    eX:=fun t=>by rw[BR];exact apf fz _ t
    box:=fun i r hi=>by cases hi
    eM:=fun i b aw=>by cases aw
    eE:=fun i j az h9 _ hi=>by cases hi }
   refine wpIn_mono (aq8 (E:=C.seq ds) (M:=M) (l:=l) (J:=J) (Jx:=Jx) s6 eC hm (c6.mono ai) (M0:=fn.ntmps) (by simp;omega) c ae ⟨w,_,_,_,_,UP,vb,b3.refl _,(fun i r hi=>by cases hi),fun _=>⟨avk,cp⟩,fun e=>by cases e⟩ ad) ?_
   have done:∀{a:Act} {w':World} {e:fi},HG (vs++Array.replicate (fn.ntmps - vs.size) undef).size M rd J Jx (fun y _=>(match e with| .exit _=>False|_=>True)∧(y.b=true→C.seq ds y.k=none)) a w'→
    a.defers=[]∧∃v,(results fn a.tmps).run P w'= .ok v w'∧∃cR,Ending.returned v= .returned cR∧((∃k p m,C.seq ds k=none∧J k p m w')∨∃p,Jx p w'):=by
    rintro a w' e ⟨y,σ,⟨_,hy⟩,W,pd,rd',β,R,p,dq,_,fJ,h1,h2⟩
    refine⟨dq.defers,?_⟩
    have aH:yu σ []=some []:=rfl
    obtain⟨us,bh,_⟩:=Ea dq fD aH
    have bO:∃v,(results fn a.tmps).run P w'= .ok v w':=by
     have vl:=H5 (P:=P) (w:=w') fn.results.toList bh
     unfold results
     rw[Array.mapM_eq_mapM_toList]
     simp only[Sem.run_bind,Sem.run_map]
     exact⟨_,congrArg (fun r:Result (List Value)=>(r.andThen fun a w'=>Result.ok a.toArray w').andThen fun(a:Array Value) w'=>Sem.run P (pure (if h:a.size=1 then a[0]else Value.tuple a)) w') vl⟩
    obtain⟨v,aB⟩:=bO
    refine⟨v,aB,v,rfl,?_⟩
    ·cases aw:y.b with
     |true=>exact .inl ⟨y.k,_,rd',hy aw,s6 _ _ _ _ _ _ _ (h1 aw).1 (M3 dq fJ).1 dq.dR dq.dg (fun aP v e aH=>dq.aL aP v e aH) (M3 dq fJ).2⟩
     |false=>exact .inr ⟨_,KI _ _ _ _ (h2 aw) (M3 dq fJ).1⟩
   intro e a w' he
   cases e with
   |normal=>exact done (e:= .normal) he
   |ret=>exact done (e:= .ret) he
   |exit id=>obtain⟨_,_,⟨h1,_⟩,_⟩:=he;exact h1.elim
   |_=>exact he.elim
  ·cases hf
 ·cases hf
end
end RV
namespace RV
open Go
theorem EN (F:ag→Prop) (l:Nat):cs (.dv l) F=F (.dv l):=rfl
theorem II (σ:St) (ws:List Nat) (t:Nat):(σ.only ws).af t=if ws.contains t=true then .any else σ.af t:=rfl
theorem IJ (σ:St) (ws:List Nat):(σ.only ws).aA=σ.aA:=rfl
theorem Er (i l:Nat):ag.kill i (.dv l)= .dv l:=by simp[ag.kill,ag.has]
def bx.lj:bx→Bool
 | .hJ _ _=>false
 |_=>true
def a3.lj:a3→Bool
 | .cC ops=>ops.all fun o=>o.op.lj||o.guard.isNone
 | .seq a b=>a.lj && b.lj
 | .cond _ a b=>a.lj && b.lj
 | .block _ a=>a.lj
 | .loop a=>a.lj
 |_=>true
section
variable {Γ:Env} {E:Nat→Option (List D)} {M l:Nat} {σ:St} {y:gv}
theorem ame {op:bx} (h:op.lj=true):GQ σ op=none:=by cases op<;>first|rfl|simp[bx.lj]at h
theorem Z4 {o:bW} {K:St→Prop} {no:Prop} (aJ:(o.op.lj||o.guard.isNone)=true) (h:guarded σ o.guard (cG Γ o.dst σ K o.op) no):GQ σ o.op=none:=by
 rw[Bool.or_eq_true]at aJ
 rcases aJ with aJ|aJ
 ·exact ame aJ
 ·rw[Option.isNone_iff_eq_none]at aJ
  rw[aJ]at h
  obtain⟨dst,op,g⟩:=o
  cases op with
  |hJ x bm=>
   simp only[guarded,cG]at h
   unfold GQ
   simp only
   split at h
   ·rename_i e;rw[e]
   ·rename_i e;rw[e]
   ·exact h.elim
  |_=>rfl
theorem zv {K:gv→St→Prop} :∀{ops:List bW} {σ:St},(ops.all fun o=>o.op.lj||o.guard.isNone)=true→hc Γ (K y) ops σ→hL Γ E M l K ops y σ
 |[],_,_,h=>h
 |o::r,σ,aJ,h=>by
  simp only[List.all_cons,Bool.and_eq_true]at aJ
  simp only[hc]at h
  simp only[hL,Z4 aJ.1 h]
  exact Ma (fun k=>MW (fun s aE=>zv aJ.2 aE) k) (fun k=>zv aJ.2 k) h
theorem k3:∀(c:a3) {Q:fi→gv→St→Prop} {y:gv} {σ:St},c.lj=true→cb Γ c (fun e s=>Q e y s) σ→fS Γ E M l c Q y σ
 | .skip,_,_,_,_,h=>h
 | .cC ops,Q,y,σ,aJ,h=>zv aJ h
 | .oW pre yS,_,_,_,_,h=>h
 | .seq a b,Q,y,σ,aJ,h=>by
   simp only[a3.lj,Bool.and_eq_true]at aJ
   simp only[cb]at h
   simp only[fS]
   refine k3 a aJ.1 (kb a (fun e s aE=> ?_) h)
   cases e with
   |normal=>exact k3 b aJ.2 aE
   |exit j=>exact aE
   |ret=>exact aE
 | .cond c a b,Q,y,σ,aJ,h=>by
   simp only[a3.lj,Bool.and_eq_true]at aJ
   simp only[cb]at h
   simp only[fS]
   split at h
   ·rename_i e
    rw[e]
    exact⟨fun e=>k3 a aJ.1 (h.1 e),fun e=>k3 b aJ.2 (h.2 e)⟩
   ·exact h.elim
 | .block id a,Q,y,σ,aJ,h=>by
   simp only[cb]at h
   simp only[fS]
   refine k3 a aJ (kb a (fun e s aE=> ?_) h)
   cases e<;>exact aE
 | .loop a,Q,y,σ,aJ,h=>by
   simp only[cb,CN]at h
   simp only[fS]
   obtain⟨I,eT,h0,eP⟩:=h
   refine⟨fun z s=>z=y∧I s,fun _ s=>eT s,⟨rfl,h0⟩,?_⟩
   rintro z s ⟨rfl,aE⟩
   refine k3 a aJ (kb a (fun e ef lB=> ?_) (eP s aE))
   cases e with
   |normal=>exact⟨⟨rfl,lB.1⟩,lB.2⟩
   |exit j=>exact lB
   |ret=>exact lB
 | .exit id,_,_,_,_,h=>h
 | .ret,_,_,_,_,h=>h
theorem anI {dst:Option Nat} {K fe:gv→St→Prop} (b9:∀y s,K y s→fe y s) {vs:List ag} (h:KL E M dst y σ K vs):KL E M dst y σ fe vs:=by
 unfold KL at*
 obtain⟨h1,h2,aq⟩:=h
 refine⟨h1,h2,?_⟩
 split at aq
 ·exact⟨aq.1,fun e=>b9 _ _ (aq.2.1 e),b9 _ _ aq.2.2⟩
 ·exact aq.elim
theorem Mu {K fe:gv→St→Prop} (b9:∀y s,K y s→fe y s):∀{ops:List bW} {y:gv} {σ:St},hL Γ E M l K ops y σ→hL Γ E M l fe ops y σ
 |[],_,_,h=>b9 _ _ h
 |o::r,y,σ,h=>by
  simp only[hL]at*
  split at h
  ·exact⟨h.1,h.2.1,anI (fun y s aE=>Mu b9 aE) h.2.2⟩
  ·exact Ma (fun k=>MW (fun s aE=>Mu b9 aE) k) (fun k=>Mu b9 k) h
theorem AZ:∀(c:a3) {Q Q':fi→gv→St→Prop} {y:gv} {σ:St},(∀e y s,Q e y s→Q' e y s)→fS Γ E M l c Q y σ→fS Γ E M l c Q' y σ
 | .skip,_,_,_,_,aO,h=>aO _ _ _ h
 | .cC ops,_,_,_,_,aO,h=>Mu (fun y s aE=>aO _ _ _ aE) h
 | .oW pre yS,_,_,_,_,aO,h=>Cv (fun s aE=>Ik (fun s aE=>aO _ _ _ aE) aE) h
 | .seq a b,_,_,_,_,aO,h=>by
   simp only[fS]at*
   refine AZ a (fun e y s aE=> ?_) h
   cases e with
   |normal=>exact AZ b aO aE
   |exit j=>exact aO _ _ _ aE
   |ret=>exact aO _ _ _ aE
 | .cond c a b,_,_,_,_,aO,h=>by
   simp only[fS]at*
   split at h
   ·exact⟨fun e=>AZ a aO (h.1 e),fun e=>AZ b aO (h.2 e)⟩
   ·exact h.elim
 | .block id a,_,_,_,_,aO,h=>by
   simp only[fS]at*
   refine AZ a (fun e y s aE=> ?_) h
   cases e with
   |normal=>exact aO _ _ _ aE
   |exit j=>simp only at aE⊢;split at aE<;>rename_i aF<;>simp only[aF,if_true,if_false]<;>exact aO _ _ _ aE
   |ret=>exact aO _ _ _ aE
 | .loop a,_,_,_,_,aO,h=>by
   simp only[fS]at*
   obtain⟨I,eT,h0,eP⟩:=h
   refine⟨I,eT,h0,fun z s aE=>AZ a (fun e fU ef lB=> ?_) (eP z s aE)⟩
   cases e with
   |normal=>exact lB
   |exit j=>exact aO _ _ _ lB
   |ret=>exact aO _ _ _ lB
 | .exit id,_,_,_,_,aO,h=>aO _ _ _ h
 | .ret,_,_,_,_,aO,h=>aO _ _ _ h
theorem zC {a b:a3} {Q:fi→gv→St→Prop} (K:gv→St→Prop) (a6:fS Γ E M l a (fun e y s=>match e with| .normal=>K y s|e=>Q e y s) y σ) (aw:∀y s,K y s→fS Γ E M l b Q y s):fS Γ E M l (.seq a b) Q y σ:=by
 simp only[fS]
 refine AZ a (fun e y s aE=> ?_) a6
 cases e with
 |normal=>exact aw _ _ aE
 |exit j=>exact aE
 |ret=>exact aE
theorem sa {a b:a3} {Q:fi→gv→St→Prop} (K:St→Prop) (aJ:a.lj=true) (a6:cb Γ a (fun e s=>match e with| .normal=>K s|e=>Q e y s) σ) (aw:∀s,K s→fS Γ E M l b Q y s):fS Γ E M l (.seq a b) Q y σ:=by
 refine zC (fun z s=>z=y∧K s) (k3 a aJ (kb a (fun e s aE=> ?_) a6)) ?_
 ·cases e with
  |normal=>exact⟨rfl,aE⟩
  |exit j=>exact aE
  |ret=>exact aE
 ·rintro z s ⟨rfl,aE⟩
  exact aw s aE
theorem Cx {id:Nat} {a:a3} {Q:fi→gv→St→Prop} (h:fS Γ E M l a (fun e y s=>match e with| .exit j=>if j=id then Q .normal y s else Q (.exit j) y s|e=>Q e y s) y σ):fS Γ E M l (.block id a) Q y σ:=h
theorem Mv {a:a3} {Q:fi→gv→St→Prop} (I:gv→St→Prop) (eT:gv→St→Nat) (h0:I y σ)
 (eP:∀z s,I z s→fS Γ E M l a (fun e fU ef=>match e with| .normal=>I fU ef∧eT fU ef<eT z s|e=>Q e fU ef) z s):fS Γ E M l (.loop a) Q y σ:=by
 simp only[fS]
 refine⟨I,eT,h0,fun z s aE=>AZ a (fun e fU ef lB=> ?_) (eP z s aE)⟩
 cases e<;>exact lB
theorem Ra {K:gv→St→Prop} (n:Nat) (R:St→Prop):∀{ops:List bW} {σ:St},((ops.take n).all fun o=>o.op.lj||o.guard.isNone)=true→hc Γ R (ops.take n) σ→(∀s,R s→hL Γ E M l K (ops.drop n) y s)→hL Γ E M l K ops y σ:=by
 intro ops σ aJ h aw
 have key:∀(bm At:List bW) (σ:St),(bm.all fun o=>o.op.lj||o.guard.isNone)=true→hc Γ R bm σ→(∀s,R s→hL Γ E M l K At y s)→hL Γ E M l K (bm++At) y σ:=by
  intro bm At
  induction bm with
  |nil=>intro σ _ h aw;exact aw _ h
  |cons o r cJ=>
   intro σ aJ h aw
   simp only[List.all_cons,Bool.and_eq_true]at aJ
   simp only[hc]at h
   simp only[List.cons_append,hL,Z4 aJ.1 h]
   exact Ma (fun k=>MW (fun s aE=>cJ s aJ.2 aE aw) k) (fun k=>cJ _ aJ.2 k aw) h
 have:=key (ops.take n) (ops.drop n) σ aJ h aw
 rwa [List.take_append_drop]at this
theorem QI {K:gv→St→Prop} {dst:Option Nat} {x:bk} {bm:List bk} {r:List bW} {ds:List D} (aj:σ.aU x= .dv l) (aQ:ag.g8 (cr σ bm)=true) (aD:toDs σ (cr σ bm)=some ds) (aw:y.b=true) (eO:E y.k=some ds)
 (h1:y.k+1<M→hL Γ E M l K r ⟨y.k+1,true⟩ (σ.still.put dst (.d (.bool true)))) (h2:hL Γ E M l K r ⟨y.k,false⟩ (σ.still.put dst (.d (.bool false)))):hL Γ E M l K (⟨dst,.hJ x bm,none⟩::r) y σ:=by
 simp only[hL,GQ,aj,KL,aD]
 exact⟨trivial,trivial,aw,aQ,eO,h1,h2⟩
theorem yf {t:Nat} {d:D} (h:σ.af t= .d d):σ.still.af t= .d d:=by simp[St.still,h,ag.ids]
theorem Rb {t n:Nat} (h:σ.af t= .dv n):σ.still.af t= .dv n:=by simp[St.still,h,ag.ids]
theorem XW {i:Nat} {e:Bool} {c:BC} (aw:σ.aA i=some ⟨false,e,c⟩) (ay:c.pure=true):σ.keeps i=true:=by simp[St.keeps,aw,ay]
theorem YA {t i o:Nat} {e:Bool} {c:BC} (h:σ.af t= .box i o) (aw:σ.aA i=some ⟨false,e,c⟩) (ay:c.pure=true):σ.still.af t= .box i o:=by simp[St.still,h,ag.ids,XW aw ay]
theorem Zh {i:Nat} {e:Bool} {c:BC} (aw:σ.aA i=some ⟨false,e,c⟩) (ay:c.pure=true):σ.still.aA i=some ⟨false,true,c⟩:=by simp[St.still,XW aw ay,aw]
end
end RV
namespace RV
open Go Go.RowKit
inductive iT where
 |c (a:a3)
 |seq (a b:iT)
 |cond (c:bk) (a b:iT)
 |goto
def tw (P:Program) (N:Nat):Code→Option iT
 | .goto 0=>some .goto
 | .label _=>some (.c .skip)
 | .seq a b=>match er P N (.seq a b)with
   |some l=>some (.c l)
   |none=>match tw P N a,tw P N b with
    |some x,some y=>some (.seq x y)
    |_,_=>none
 | .cond c a b=>match er P N (.cond c a b)with
   |some l=>some (.c l)
   |none=>match dA P c,tw P N a,tw P N b with
    |some c,some x,some y=>some (.cond c x y)
    |_,_,_=>none
 |c=>(er P N c).map .c
def EC (P:Program) (f:Nat):Option (a3×iT×iT×List bo):=
 match P.funcs[f]? with
 |some fn=>match fn.body with
  |some (.seq p (.scope c))=>match findLabel c 0 with
   |some r=>match er P fn.ntmps p,tw P fn.ntmps c,tw P fn.ntmps r,zB P fn.results.toList with
    |some p,some x,some y,some rs=>some (p,x,y,rs)
    |_,_,_,_=>none
   |none=>none
  |_=>none
 |none=>none
def lC (Γ:Env):iT→(St→Prop)→(St→Prop)→(St→Prop)→St→Prop
 | .c l,jj,iU,_,σ=>cb Γ l (fun e s=>match e with| .normal=>jj s| .ret=>iU s| .exit _=>False) σ
 | .seq a b,jj,iU,iV,σ=>lC Γ a (fun s=>lC Γ b jj iU iV s) iU iV σ
 | .cond c a b,jj,iU,iV,σ=>match σ.aU c with
   | .d (.bool t)=>(t=true→lC Γ a jj iU iV σ)∧(t=false→lC Γ b jj iU iV σ)
   |_=>False
 | .goto,_,_,iV,σ=>iV σ
def C3 (Γ:Env) (p:a3) (a b:iT) (rs:List bo) (args:List D) (K:D→Prop):Prop:=
 cb Γ p (fun e ov=>match e with
  | .normal=>∃(J:St→Prop) (eT:St→Nat),lC Γ a (fun s=>kJ rs s K) (fun s=>kJ rs s K) J ov∧∀s,J s→lC Γ b (fun s=>kJ rs s K) (fun s=>kJ rs s K) (fun ef=>J ef∧eT ef<eT s) s
  |_=>False) (uo args)
section
variable {N:Nat} {aR:e3} {aL:Mem} {R:bU} {σ σ':St} {a:Act} {w w':World} {rd rd':Mem} {β β':bU} {P:Program} {Γ:Env}
def abP (N:Nat) (aR:e3) (aL:Mem) (R:bU) (jj iU iV:St→Prop):Exit→Act→World→Prop
 | .normal,a,w=>jh N aR aL R jj a w
 | .ret,a,w=>jh N aR aL R iU a w
 | .goto l,a,w=>l=0∧jh N aR aL R iV a w
 |_,_,_=>False
theorem Xx (hm:P.follows .mixedOrders=true) (c6:ah P aL Γ) {M:Nat} (cg:M≤N):∀(c:Code) {DW:iT} {jj iU iV:St→Prop} {σ:St} {a:Act} {w:World} {rd:Mem} {β:bU},tw P M c=some DW→
 bd N aR aL R σ a w rd β→lC Γ DW jj iU iV σ→c.wp P (abP N aR aL R jj iU iV) a w:=by
 intro c
 have plain:∀{c:Code} {l:a3} {jj iU iV:St→Prop} {σ:St} {a:Act} {w:World} {rd:Mem} {β:bU},er P M c=some l→bd N aR aL R σ a w rd β→lC Γ (.c l) jj iU iV σ→c.wp P (abP N aR aL R jj iU iV) a w:=by
  intro c l jj iU iV σ a w rd β ae h ad
  refine wp_mono (Ie hm c6 cg c ae h ad) fun e b7 w' he=> ?_
  cases e with
  |normal=>exact he
  |ret=>exact he
  |exit id=>obtain⟨_,_,_,h1,_⟩:=he;exact h1.elim
  |_=>exact he.elim
 induction c with
 |seq x y mE sQ=>
  intro DW jj iU iV σ a w rd β ae h ad
  simp only[tw]at ae
  split at ae
  ·rename_i l aH
   simp only[Option.some.injEq]at ae;subst ae
   exact plain aH h ad
  ·split at ae
   ·rename_i c7 gW aj hy
    simp only[Option.some.injEq]at ae;subst ae
    simp only[lC]at ad
    refine wp_seq (wp_mono (mE aj h ad) fun e b7 w' he=> ?_)
    cases e with
    |normal=>obtain⟨σ',rd',β',h1,h2⟩:=he;exact sQ hy h2 h1
    |ret=>exact he
    |goto l=>exact he
    |_=>exact he.elim
   ·cases ae
 |cond Pa x y mE sQ=>
  intro DW jj iU iV σ a w rd β ae h ad
  simp only[tw]at ae
  split at ae
  ·rename_i l aH
   simp only[Option.some.injEq]at ae;subst ae
   exact plain aH h ad
  ·split at ae
   ·rename_i aU c7 gW ay aj hy
    simp only[Option.some.injEq]at ae;subst ae
    simp only[lC]at ad
    have ar:=ez h ay
    split at ad
    ·rename_i t DD
     rw[DD]at ar
     simp only[aT,bj]at ar
     cases t with
     |true=>exact wp_cond_true ar (mE aj h (ad.1 rfl))
     |false=>exact wp_cond_false ar (sQ hy h (ad.2 rfl))
    ·exact ad.elim
   ·cases ae
 |goto l=>
  intro DW jj iU iV σ a w rd β ae h ad
  unfold tw at ae
  split at ae
  ·rename_i e
   simp only[Code.goto.injEq]at e
   simp only[Option.some.injEq]at ae;subst ae
   exact wp_goto ⟨e,σ,rd,β,ad,h⟩
  all_goals first
   |(rename_i e;cases e;done)
   |(obtain⟨_,q,_⟩:=map_some ae;cases q;done)
 |label l=>
  intro DW jj iU iV σ a w rd β ae h ad
  simp only[tw,Option.some.injEq]at ae;subst ae
  exact wp_label ⟨σ,rd,β,ad,h⟩
 |_=>
  intro DW jj iU iV σ a w rd β ae h ad
  simp only[tw]at ae
  obtain⟨l,aH,rfl⟩:=map_some ae
  exact plain aH h ad
theorem akn {c rest:Code} {Q:Exit→Act→World→Prop} (l:Nat) (J:Nat→Act→World→Prop) (hf:findLabel c l=some rest)
 (first:c.wp P (Exit.jump l (fun a w=>∃n,J n a w) Q) a w)
 (pass:∀n a w,J n a w→rest.wp P (Exit.jump l (fun b7 w'=>∃m,m<n∧J m b7 w') Q) a w):(Code.scope c).wp P Q a w:=by
 intro b k cs
 have bb:gotoIn l (.inScope c::k)=some (.code rest:: .inScope c::k):=by simp[gotoIn,hf]
 have key:∀n a w,J n a w→∃e b7 w',Q e b7 w'∧Arrives P (lone (b.at a (.code rest:: .inScope c::k)) cs w) b k cs e b7 w':=by
  intro n
  induction n using Nat.strongRecOn with
  |_ n cJ=>
   intro a w s6
   obtain⟨e,hN,hO,aO,fy⟩:=pass n a w s6 b (.inScope c::k) cs
   cases e with
   |normal=>exact⟨.normal,hN,hO,aO,Steps.trans fy (.one step_inScope)⟩
   |exit id=>exact⟨.exit id,hN,hO,aO,fun cX ad=>fy cX (by simp[exitTo,ad])⟩
   |goto ky=>
    obtain⟨rfl,m,bl,U3⟩:=aO
    obtain⟨CZ,C0,C1,CT,CL⟩:=cJ m bl hN hO U3
    exact⟨CZ,C0,C1,CT,.of_steps (fy _ bb) CL⟩
   |ret=>exact⟨_,hN,hO,aO,fy⟩
   |panic As=>exact⟨_,hN,hO,aO,fy⟩
   |outgrown=>exact⟨_,hN,hO,aO,fy⟩
 obtain⟨e,hN,hO,aO,fy⟩:=first b (.inScope c::k) cs
 cases e with
 |normal=>exact⟨.normal,hN,hO,aO,.head step_scope (Steps.trans fy (.one step_inScope))⟩
 |exit id=>exact⟨.exit id,hN,hO,aO,fun cX ad=> .head step_scope (fy cX (by simp[exitTo,ad]))⟩
 |goto ky=>
  obtain⟨rfl,m,U3⟩:=aO
  obtain⟨CZ,C0,C1,CT,CL⟩:=key m hN hO U3
  exact⟨CZ,C0,C1,CT,.of_steps (.head step_scope (fy _ bb)) CL⟩
 |ret=>exact⟨_,hN,hO,aO,.of_steps (.one step_scope) fy⟩
 |panic As=>exact⟨_,hN,hO,aO,.of_steps (.one step_scope) fy⟩
 |outgrown=>exact⟨_,hN,hO,aO,.of_steps (.one step_scope) fy⟩
theorem ara (hm:P.follows .mixedOrders=true) {B:Mem} (c6:ah P B Γ) {f:Nat} {fn:Func} (ga:P.funcs[f]? =some fn) (vN:(fn.name== "runtime.NumGoroutine")=false) {LJ:a3} {b4 dJ:iT} {rs:List bo} (hf:EC P f=some (LJ,b4,dJ,rs)) {C:br}
 (h:∀ds,C.pre ds→C3 Γ LJ b4 dJ rs ds fun d=>d=C.res ds) (bz:C.own=false:=by rfl):l8 P B f C:=by
 simp only[EC,ga]at hf
 split at hf
 ·rename_i c ay
  split at hf
  ·rename_i r ar
   split at hf
   ·rename_i iz x y o9 eF aj hy fD
    simp only[Option.some.injEq,Prod.mk.injEq]at hf
    obtain⟨rfl,rfl,rfl,rfl⟩:=hf
    refine⟨⟨fn,ga,vN,by rw[ay];rfl⟩,fun ds aQ w rd vs ai l9 fz=> ?_⟩
    have h0:=h ds aQ
    unfold C3 at h0
    refine calls_of_wp ga ay ?_
    have vb:=MH (N:=(vs++Array.replicate (fn.ntmps - vs.size) undef).size) l9 fz (fn.ntmps - vs.size) rfl
    have cg:fn.ntmps≤(vs++Array.replicate (fn.ntmps - vs.size) undef).size:=by simp;omega
    refine wp_seq (wp_mono (Ie hm (c6.mono ai) cg _ eF vb h0) fun e dE aR he=> ?_)
    cases e with
    |normal=>
     obtain⟨ov,aL,azv,⟨J,eT,h1,h2⟩,dO⟩:=he
     refine akn 0 (fun n a w'=>jh (vs++Array.replicate (fn.ntmps - vs.size) undef).size w.base rd (fun _=>none) (fun s=>J s∧eT s=n) a w') ar ?_ ?_
     ·refine wp_mono (Xx hm (c6.mono ai) cg c aj dO h1) fun e a w' he=> ?_
      cases e with
      |normal=>exact I9 fD bz he
      |ret=>exact I9 fD bz he
      |goto l=>obtain⟨rfl,s,rd',β',bh,bB⟩:=he;exact⟨rfl,eT s,s,rd',β',⟨bh,rfl⟩,bB⟩
      |_=>exact he.elim
     ·rintro n a cf ⟨s,rd',β',⟨bh,rfl⟩,bB⟩
      refine wp_mono (Xx hm (c6.mono ai) cg r hy bB (h2 s bh)) fun e a w' he=> ?_
      cases e with
      |normal=>exact I9 fD bz he
      |ret=>exact I9 fD bz he
      |goto l=>obtain⟨rfl,ef,as8,as9,⟨c2,hF⟩,ou⟩:=he;exact⟨rfl,eT ef,hF,ef,as8,as9,⟨c2,rfl⟩,ou⟩
      |_=>exact he.elim
    |ret=>obtain⟨_,_,_,q,_⟩:=he;exact q.elim
    |exit id=>obtain⟨_,_,_,q,_⟩:=he;exact q.elim
    |_=>exact he.elim
   ·cases hf
  ·cases hf
 ·cases hf
end
end RV
namespace RV
open Go
def a3.ED:a3→Bool
 | .loop _=>true
 | .seq a b=>a.ED||b.ED
 | .cond _ a b=>a.ED||b.ED
 | .block _ a=>a.ED
 |_=>false
def a3.ap (c:a3→a3→a3) (a b:a3):a3:=c a b
def a3.hY (c:a3→a3→a3):a3→a3
 | .seq a b=>if a.ED=true then a3.ap c (a.hY c) (b.hY c)else .seq (a.hY c) (b.hY c)
 | .cond x a b=> .cond x (a.hY c) (b.hY c)
 | .block i a=> .block i (a.hY c)
 | .loop a=> .loop (a.hY c)
 |l=>l
def ji.hY (c:a3→a3→a3):ji→ji
 | .c l=> .c (l.hY c)
 | .seq a b=> .seq (a.hY c) (b.hY c)
 | .block i a=> .block i (a.hY c)
 | .GP g p w a b=> .GP g p w (a.hY c) (b.hY c)
 |l=>l
def iT.hY (c:a3→a3→a3):iT→iT
 | .c l=> .c (l.hY c)
 | .seq a b=> .seq (a.hY c) (b.hY c)
 | .cond x a b=> .cond x (a.hY c) (b.hY c)
 | .goto=> .goto
abbrev a3.mk (P:Program) (f:Nat) {x:a3} (_:(qY P f).map (fun y=>y.1)=some x:=by conv=>lhs;cbv):a3:=x
abbrev a3.fE (P:Program) (f:Nat) {x:(a3→a3→a3)→a3} (_:∀c,(qY P f).map (fun y=>y.1.hY c)=some (x c):=by intro c;conv=>lhs;cbv):a3:=x a3.cut
abbrev ji.mk (P:Program) (f:Nat) {x:ji} (_:(IG P f).map (fun y=>y.1)=some x:=by conv=>lhs;cbv):ji:=x
abbrev ji.fE (P:Program) (f:Nat) {x:(a3→a3→a3)→ji} (_:∀c,(IG P f).map (fun y=>y.1.hY c)=some (x c):=by intro c;conv=>lhs;cbv):ji:=x a3.cut
abbrev a3.afr (P:Program) (f:Nat) {x:(a3→a3→a3)→a3} (_:∀c,(EC P f).map (fun y=>y.1.hY c)=some (x c):=by intro c;conv=>lhs;cbv):a3:=x a3.cut
abbrev iT.afs (P:Program) (f:Nat) {x:(a3→a3→a3)→iT} (_:∀c,(EC P f).map (fun y=>y.2.1.hY c)=some (x c):=by intro c;conv=>lhs;cbv):iT:=x a3.cut
abbrev iT.aft (P:Program) (f:Nat) {x:(a3→a3→a3)→iT} (_:∀c,(EC P f).map (fun y=>y.2.2.1.hY c)=some (x c):=by intro c;conv=>lhs;cbv):iT:=x a3.cut
end RV
namespace RV.Dr
open Go RV Go.Proofs
set_option maxRecDepth 100000
noncomputable section
noncomputable abbrev bE:=Tryz.prog
end
end RV.Dr
namespace RV.Dr
open Go RV Go.Proofs
set_option maxRecDepth 100000
noncomputable section
def s5:a3:=(.seq (.cC [⟨(some 6),(.box (.t 0)),none⟩,⟨(some 7),(.box (.t 1)),none⟩,⟨(some 8),(.box (.t 2)),none⟩,⟨(some 9),(.box (.t 3)),none⟩,⟨(some 12),(.bg (.c (.bool false))),none⟩]) (.seq (.cC [⟨(some 19),(.call 15 []),none⟩,⟨(some 13),(.bg (.t 19)),none⟩]) (.seq (.seq (.cC [⟨(some 20),(.fM 0 (.t 6)),none⟩,⟨(some 21),(.fM 1 (.t 20)),none⟩,⟨(some 22),(.load 1 false (.t 21)),none⟩,⟨(some 23),(.len (.t 22)),none⟩,⟨(some 24),(.bin .gtr (.t 23) (.c (.int .i64 70))),none⟩,⟨(some 25),(.bg (.t 24)),none⟩,⟨(some 26),(.fM 3 (.t 6)),(some (25,false))⟩,⟨(some 27),(.fM 1 (.t 26)),(some (25,false))⟩,⟨(some 28),(.load 1 false (.t 27)),(some (25,false))⟩,⟨(some 29),(.len (.t 28)),(some (25,false))⟩,⟨(some 30),(.bin .gtr (.t 29) (.c (.int .i64 70))),(some (25,false))⟩,⟨(some 31),(.pick (.t 25) (.c (.bool true)) (.t 30)),none⟩,⟨(some 32),(.bg (.t 31)),none⟩,⟨(some 33),(.fM 0 (.t 6)),(some (32,false))⟩,⟨(some 34),(.fM 2 (.t 33)),(some (32,false))⟩,⟨(some 35),(.load 1 false (.t 34)),(some (32,false))⟩,⟨(some 36),(.bin .gtr (.t 35) (.c (.int .i64 7000))),(some (32,false))⟩,⟨(some 37),(.pick (.t 32) (.c (.bool true)) (.t 36)),none⟩,⟨(some 38),(.bg (.t 37)),none⟩,⟨(some 39),(.fM 0 (.t 6)),(some (38,false))⟩,⟨(some 40),(.fM 2 (.t 39)),(some (38,false))⟩,⟨(some 41),(.load 1 false (.t 40)),(some (38,false))⟩,⟨(some 42),(.bin .lss (.t 41) (.c (.int .i64 (-7000)))),(some (38,false))⟩,⟨(some 43),(.pick (.t 38) (.c (.bool true)) (.t 42)),none⟩,⟨(some 44),(.bg (.t 43)),none⟩,⟨(some 45),(.fM 3 (.t 6)),(some (44,false))⟩,⟨(some 46),(.fM 2 (.t 45)),(some (44,false))⟩,⟨(some 47),(.load 1 false (.t 46)),(some (44,false))⟩,⟨(some 48),(.bin .gtr (.t 47) (.c (.int .i64 7000))),(some (44,false))⟩,⟨(some 49),(.pick (.t 44) (.c (.bool true)) (.t 48)),none⟩,⟨(some 50),(.bg (.t 49)),none⟩,⟨(some 51),(.fM 3 (.t 6)),(some (50,false))⟩,⟨(some 52),(.fM 2 (.t 51)),(some (50,false))⟩,⟨(some 53),(.load 1 false (.t 52)),(some (50,false))⟩,⟨(some 54),(.bin .lss (.t 53) (.c (.int .i64 (-7000)))),(some (50,false))⟩,⟨(some 55),(.pick (.t 50) (.c (.bool true)) (.t 54)),none⟩]) (.cond (.t 55) (.seq (.cC [⟨(some 56),(.bg (.t 13)),none⟩,⟨(some 12),(.bg (.t 56)),none⟩]) .ret) .skip)) (.seq (.seq (.oW [(⟨(some 57),(.load 6 true (.t 6)),none⟩,[]),(⟨(some 58),(.call 16 [(.t 57)]),none⟩,[88888888]),(⟨(some 59),(.load 6 true (.t 6)),none⟩,[])] [⟨(some 60),(.call 17 [(.t 59)]),none⟩,⟨(some 61),(.q5 true (.t 58) (.t 60)),none⟩]) (.cond (.t 61) (.seq (.cC [⟨(some 12),(.bg (.c (.bool false))),none⟩]) .ret) .skip)) (.seq (.seq (.cC [⟨(some 62),(.load 6 true (.t 7)),none⟩,⟨(some 63),(.load 6 true (.t 8)),none⟩,⟨(some 64),(.rI (.recs 6) [(.t 62),(.t 63)]),none⟩,⟨(some 65),(.call 18 [(.t 64)]),none⟩,⟨(some 66),(.un .not (.t 65)),none⟩,⟨(some 67),(.bg (.t 66)),none⟩,⟨(some 68),(.load 3 true (.t 9)),(some (67,false))⟩,⟨(some 69),(.rI (.recs 3) [(.t 68)]),(some (67,false))⟩,⟨(some 70),(.call 19 [(.t 69)]),(some (67,false))⟩,⟨(some 71),(.un .not (.t 70)),(some (67,false))⟩,⟨(some 72),(.pick (.t 67) (.c (.bool true)) (.t 71)),none⟩,⟨(some 73),(.bg (.t 72)),none⟩,⟨(some 74),(.bg (.t 5)),(some (73,false))⟩,⟨(some 75),(.bin .lss (.t 74) (.c (.int .i64 (-500)))),(some (73,false))⟩,⟨(some 76),(.pick (.t 73) (.c (.bool true)) (.t 75)),none⟩,⟨(some 77),(.bg (.t 76)),none⟩,⟨(some 78),(.bg (.t 5)),(some (77,false))⟩,⟨(some 79),(.bin .gtr (.t 78) (.c (.int .i64 500))),(some (77,false))⟩,⟨(some 80),(.pick (.t 77) (.c (.bool true)) (.t 79)),none⟩]) (.cond (.t 80) (.seq (.cC [⟨(some 81),(.bg (.t 13)),none⟩,⟨(some 12),(.bg (.t 81)),none⟩]) .ret) .skip)) (.seq (.cC [⟨(some 82),(.bg (.t 4)),none⟩,⟨(some 83),(.conv .i64 (.t 82)),none⟩,⟨(some 84),(.bin .rem (.t 83) (.c (.int .i64 60))),none⟩,⟨(some 85),(.bin .add (.t 84) (.c (.int .i64 1))),none⟩,⟨(some 14),(.bg (.t 85)),none⟩]) (.seq (.cC [⟨(some 87),(.load 6 true (.t 7)),none⟩,⟨(some 88),(.bg (.t 14)),none⟩,⟨(some 89),(.call 20 [(.t 87),(.t 88)]),none⟩,⟨(some 86),(.bg (.t 89)),none⟩,⟨(some 90),(.l5 0 (.t 86)),none⟩,⟨(some 91),(.l5 1 (.t 86)),none⟩,⟨(some 15),(.alloc [(.bool false),(.ints .i64 []),(.int .i64 0),(.bool false),(.ints .i64 []),(.int .i64 0)]),none⟩,⟨none,(.store 6 (.t 15) (.t 90)),none⟩,⟨(some 16),(.bg (.t 91)),none⟩]) (.seq (.cC [⟨(some 93),(.load 6 true (.t 7)),none⟩,⟨(some 94),(.bg (.t 14)),none⟩,⟨(some 95),(.call 21 [(.t 93),(.t 94)]),none⟩,⟨(some 92),(.bg (.t 95)),none⟩,⟨(some 96),(.l5 0 (.t 92)),none⟩,⟨(some 97),(.l5 1 (.t 92)),none⟩,⟨(some 17),(.alloc [(.bool false),(.ints .i64 []),(.int .i64 0),(.bool false),(.ints .i64 []),(.int .i64 0)]),none⟩,⟨none,(.store 6 (.t 17) (.t 96)),none⟩,⟨(some 18),(.bg (.t 97)),none⟩]) (.seq (.oW [(⟨(some 98),(.bg (.t 13)),none⟩,[]),(⟨(some 99),(.bg (.t 98)),none⟩,[]),(⟨(some 100),(.load 3 true (.t 9)),(some (99,true))⟩,[]),(⟨(some 101),(.call 23 [(.t 100)]),(some (99,true))⟩,[88888888]),(⟨(some 102),(.load 3 true (.t 9)),(some (99,true))⟩,[]),(⟨(some 103),(.call 24 [(.t 102)]),(some (99,true))⟩,[]),(⟨(some 104),(.call 22 [(.t 101),(.t 103)]),(some (99,true))⟩,[]),(⟨(some 105),(.pick (.t 99) (.t 104) (.c (.bool false))),none⟩,[]),(⟨(some 106),(.bg (.t 105)),none⟩,[]),(⟨(some 107),(.load 6 true (.t 7)),(some (106,true))⟩,[]),(⟨(some 108),(.load 3 true (.t 9)),(some (106,true))⟩,[]),(⟨(some 109),(.call 25 [(.t 107),(.t 108)]),(some (106,true))⟩,[88888888]),(⟨(some 110),(.load 6 true (.t 7)),(some (106,true))⟩,[]),(⟨(some 111),(.load 3 true (.t 9)),(some (106,true))⟩,[]),(⟨(some 112),(.call 26 [(.t 110),(.t 111)]),(some (106,true))⟩,[]),(⟨(some 113),(.q5 false (.t 109) (.t 112)),(some (106,true))⟩,[]),(⟨(some 114),(.pick (.t 106) (.t 113) (.c (.bool false))),none⟩,[]),(⟨(some 115),(.bg (.t 114)),none⟩,[]),(⟨(some 116),(.load 6 true (.t 7)),(some (115,true))⟩,[]),(⟨(some 117),(.load 6 true (.t 8)),(some (115,true))⟩,[]),(⟨(some 118),(.call 27 [(.t 116),(.t 117)]),(some (115,true))⟩,[88888888]),(⟨(some 119),(.load 6 true (.t 7)),(some (115,true))⟩,[]),(⟨(some 120),(.load 6 true (.t 8)),(some (115,true))⟩,[]),(⟨(some 121),(.call 28 [(.t 119),(.t 120)]),(some (115,true))⟩,[]),(⟨(some 122),(.q5 false (.t 118) (.t 121)),(some (115,true))⟩,[]),(⟨(some 123),(.pick (.t 115) (.t 122) (.c (.bool false))),none⟩,[]),(⟨(some 124),(.bg (.t 123)),none⟩,[]),(⟨(some 125),(.load 6 true (.t 7)),(some (124,true))⟩,[]),(⟨(some 126),(.call 30 [(.t 125)]),(some (124,true))⟩,[88888888]),(⟨(some 127),(.load 6 true (.t 7)),(some (124,true))⟩,[]),(⟨(some 128),(.call 31 [(.t 127)]),(some (124,true))⟩,[]),(⟨(some 129),(.call 29 [(.t 126),(.t 128)]),(some (124,true))⟩,[]),(⟨(some 130),(.pick (.t 124) (.t 129) (.c (.bool false))),none⟩,[]),(⟨(some 131),(.bg (.t 130)),none⟩,[]),(⟨(some 132),(.load 6 true (.t 7)),(some (131,true))⟩,[]),(⟨(some 133),(.call 32 [(.t 132)]),(some (131,true))⟩,[88888888]),(⟨(some 134),(.load 6 true (.t 7)),(some (131,true))⟩,[]),(⟨(some 135),(.call 33 [(.t 134)]),(some (131,true))⟩,[]),(⟨(some 136),(.call 22 [(.t 133),(.t 135)]),(some (131,true))⟩,[]),(⟨(some 137),(.pick (.t 131) (.t 136) (.c (.bool false))),none⟩,[]),(⟨(some 138),(.bg (.t 137)),none⟩,[]),(⟨(some 139),(.load 6 true (.t 7)),(some (138,true))⟩,[]),(⟨(some 140),(.bg (.t 5)),(some (138,true))⟩,[]),(⟨(some 141),(.call 34 [(.t 139),(.t 140)]),(some (138,true))⟩,[88888888]),(⟨(some 142),(.load 6 true (.t 7)),(some (138,true))⟩,[]),(⟨(some 143),(.bg (.t 5)),(some (138,true))⟩,[]),(⟨(some 144),(.call 35 [(.t 142),(.t 143)]),(some (138,true))⟩,[]),(⟨(some 145),(.call 22 [(.t 141),(.t 144)]),(some (138,true))⟩,[]),(⟨(some 146),(.pick (.t 138) (.t 145) (.c (.bool false))),none⟩,[]),(⟨(some 147),(.bg (.t 146)),none⟩,[]),(⟨(some 148),(.load 6 true (.t 7)),(some (147,true))⟩,[]),(⟨(some 149),(.load 6 true (.t 8)),(some (147,true))⟩,[]),(⟨(some 150),(.call 36 [(.t 148),(.t 149)]),(some (147,true))⟩,[88888888]),(⟨(some 151),(.load 6 true (.t 7)),(some (147,true))⟩,[]),(⟨(some 152),(.load 6 true (.t 8)),(some (147,true))⟩,[]),(⟨(some 153),(.call 37 [(.t 151),(.t 152)]),(some (147,true))⟩,[]),(⟨(some 154),(.call 22 [(.t 150),(.t 153)]),(some (147,true))⟩,[]),(⟨(some 155),(.pick (.t 147) (.t 154) (.c (.bool false))),none⟩,[]),(⟨(some 156),(.bg (.t 155)),none⟩,[]),(⟨(some 157),(.load 6 true (.t 7)),(some (156,true))⟩,[]),(⟨(some 158),(.load 6 true (.t 8)),(some (156,true))⟩,[]),(⟨(some 159),(.call 38 [(.t 157),(.t 158)]),(some (156,true))⟩,[88888888]),(⟨(some 160),(.load 6 true (.t 7)),(some (156,true))⟩,[]),(⟨(some 161),(.load 6 true (.t 8)),(some (156,true))⟩,[]),(⟨(some 162),(.call 39 [(.t 160),(.t 161)]),(some (156,true))⟩,[]),(⟨(some 163),(.call 22 [(.t 159),(.t 162)]),(some (156,true))⟩,[]),(⟨(some 164),(.pick (.t 156) (.t 163) (.c (.bool false))),none⟩,[]),(⟨(some 165),(.bg (.t 164)),none⟩,[]),(⟨(some 166),(.load 6 true (.t 7)),(some (165,true))⟩,[]),(⟨(some 167),(.bg (.t 14)),(some (165,true))⟩,[]),(⟨(some 168),(.call 40 [(.t 166),(.t 167)]),(some (165,true))⟩,[88888888]),(⟨(some 169),(.load 6 true (.t 7)),(some (165,true))⟩,[]),(⟨(some 170),(.bg (.t 14)),(some (165,true))⟩,[]),(⟨(some 171),(.call 41 [(.t 169),(.t 170)]),(some (165,true))⟩,[]),(⟨(some 172),(.call 22 [(.t 168),(.t 171)]),(some (165,true))⟩,[]),(⟨(some 173),(.pick (.t 165) (.t 172) (.c (.bool false))),none⟩,[]),(⟨(some 174),(.bg (.t 173)),none⟩,[]),(⟨(some 175),(.load 6 true (.t 15)),(some (174,true))⟩,[]),(⟨(some 176),(.load 6 true (.t 17)),(some (174,true))⟩,[]),(⟨(some 177),(.call 22 [(.t 175),(.t 176)]),(some (174,true))⟩,[]),(⟨(some 178),(.pick (.t 174) (.t 177) (.c (.bool false))),none⟩,[]),(⟨(some 179),(.bg (.t 178)),none⟩,[]),(⟨(some 180),(.bg (.t 16)),(some (179,true))⟩,[]),(⟨(some 181),(.bg (.t 18)),(some (179,true))⟩,[])] [⟨(some 182),(.q5 false (.t 180) (.t 181)),(some (179,true))⟩,⟨(some 183),(.pick (.t 179) (.t 182) (.c (.bool false))),none⟩,⟨(some 12),(.bg (.t 183)),none⟩]) .ret)))))))))
def eJ:List bo:=[(.tmp 12)]
def aja:=a3.mk bE 7
def ajb:List bo:=[(.tmp 2)]
def afu:=a3.mk bE 23
def afv:List bo:=[(.cell 2 6 true)]
def afw:=a3.mk bE 35
def afx:List bo:=[(.cell 4 6 true)]
def afy:=a3.fE bE 39
def afz:List bo:=[(.cell 4 6 true)]
def U4:=a3.mk bE 43
def U5:List bo:=[(.tmp 2)]
def afA:=a3.mk bE 47
def afB:List bo:=[(.tmp 2)]
def afC:=a3.mk bE 51
def afD:List bo:=[(.cell 4 6 true),(.cell 5 6 true)]
def afE:=a3.mk bE 55
def afF:List bo:=[(.cell 4 3 true)]
def U6:=a3.mk bE 59
def U7:List bo:=[(.cell 2 3 true)]
def afG:a3:=(.seq (.cC [⟨(some 2),(.bg (.c (.flt 0))),none⟩]) (.seq (.cC [⟨(some 3),(.bg (.t 0)),none⟩,⟨(some 4),(.sj (.t 3)),none⟩,⟨(some 5),(.bin .andNot (.t 4) (.c (.int .u64 9223372036854775808))),none⟩,⟨(some 6),(.oT (.t 5)),none⟩,⟨(some 2),(.bg (.t 6)),none⟩]) .ret))
def afH:List bo:=[(.tmp 2)]
def afI:=a3.mk bE 79
def afJ:List bo:=[(.cell 6 3 true)]
def KN:=a3.fE bE 83
def U8:List bo:=[(.tmp 4)]
def afK:=a3.mk bE 87
def afL:List bo:=[(.tmp 4)]
def U9:=a3.mk bE 91
def Va:List bo:=[(.cell 6 3 true)]
def afM:=a3.mk bE 95
def afN:List bo:=[(.cell 4 6 true)]
def afO:=a3.mk bE 99
def afP:List bo:=[(.cell 4 2 true)]
def abQ:=a3.mk bE 103
def abR:List bo:=[(.tmp 3)]
def abS:=a3.fE bE 107
def abT:List bo:=[(.cell 2 2 true)]
def JJ:=a3.fE bE 115
def Tf:List bo:=[(.tmp 4),(.tmp 5)]
def Tg:=a3.fE bE 131
def Ti:List bo:=[(.tmp 4)]
def Tj:=a3.mk bE 135
def Tk:List bo:=[(.cell 6 3 true)]
def Tl:=a3.mk bE 139
def Tm:List bo:=[(.tmp 4),(.tmp 5)]
def Tn:=a3.fE bE 143
def To:List bo:=[(.tmp 4)]
def abe:=a3.afr bE 147
def abf:=iT.afs bE 147
def NW:=iT.aft bE 147
def Oh:List bo:=[(.cell 6 6 true)]
def abU:=a3.mk bE 151
def abV:List bo:=[(.cell 2 3 true)]
def abW:=a3.mk bE 155
def abX:List bo:=[(.tmp 2),(.tmp 3),(.tmp 4)]
def Tp:=a3.mk bE 159
def Tq:List bo:=[(.tmp 2)]
def abY:=a3.fE bE 163
def abZ:List bo:=[(.tmp 2)]
def Tr:=a3.fE bE 167
def Ts:List bo:=[(.tmp 8)]
def ab0:=a3.mk bE 171
def ab1:List bo:=[(.tmp 2)]
def ab2:=a3.mk bE 175
def ab3:List bo:=[(.tmp 4)]
def Tt:=a3.mk bE 179
def Tv:List bo:=[(.cell 2 2 true)]
def ab4:=a3.mk bE 183
def ab5:List bo:=[(.cell 2 2 true)]
def ab6:=a3.mk bE 191
def ab7:List bo:=[(.tmp 2)]
def ab8:=a3.mk bE 199
def ab9:List bo:=[(.cell 2 3 true)]
def aca:=a3.mk bE 203
def acb:List bo:=[(.tmp 4)]
def acd:=a3.mk bE 207
def ace:List bo:=[(.cell 0 6 true)]
def acf:=a3.mk bE 211
end
end RV.Dr
namespace RV.Dr
open Go RV Go.Proofs
set_option maxRecDepth 100000
noncomputable section
def qz:a3:=(.seq (.cC [⟨(some 3),(.box (.t 0)),none⟩,⟨(some 6),(.bg (.c (.bool false))),none⟩]) (.seq (.cC [⟨(some 10),(.call 42 []),none⟩,⟨(some 7),(.bg (.t 10)),none⟩]) (.seq (.seq (.cC [⟨(some 11),(.load 2 true (.t 3)),none⟩,⟨(some 12),(.call 43 [(.t 11)]),none⟩,⟨(some 13),(.un .not (.t 12)),none⟩]) (.cond (.t 13) (.seq (.cC [⟨(some 14),(.bg (.t 7)),none⟩,⟨(some 6),(.bg (.t 14)),none⟩]) .ret) .skip)) (.seq (.cC [⟨(some 15),(.bg (.t 1)),none⟩,⟨(some 16),(.conv .i64 (.t 15)),none⟩,⟨(some 17),(.bin .rem (.t 16) (.c (.int .i64 6))),none⟩,⟨(some 8),(.bg (.t 17)),none⟩]) (.seq (.cC [⟨(some 18),(.bg (.t 2)),none⟩,⟨(some 19),(.conv .i64 (.t 18)),none⟩,⟨(some 20),(.bg (.t 8)),none⟩,⟨(some 21),(.bin .shl (.c (.int .i64 1)) (.t 20)),none⟩,⟨(some 22),(.bin .add (.t 21) (.c (.int .i64 1))),none⟩,⟨(some 23),(.bin .rem (.t 19) (.t 22)),none⟩,⟨(some 9),(.bg (.t 23)),none⟩]) (.seq (.oW [(⟨(some 24),(.bg (.t 7)),none⟩,[]),(⟨(some 25),(.bg (.t 24)),none⟩,[]),(⟨(some 26),(.load 2 true (.t 3)),(some (25,true))⟩,[]),(⟨(some 27),(.call 44 [(.t 26)]),(some (25,true))⟩,[88888888]),(⟨(some 28),(.load 2 true (.t 3)),(some (25,true))⟩,[]),(⟨(some 29),(.call 45 [(.t 28)]),(some (25,true))⟩,[]),(⟨(some 30),(.bin .eql (.t 27) (.t 29)),(some (25,true))⟩,[]),(⟨(some 31),(.pick (.t 25) (.t 30) (.c (.bool false))),none⟩,[]),(⟨(some 32),(.bg (.t 31)),none⟩,[]),(⟨(some 33),(.load 2 true (.t 3)),(some (32,true))⟩,[]),(⟨(some 34),(.call 46 [(.t 33)]),(some (32,true))⟩,[88888888]),(⟨(some 35),(.load 2 true (.t 3)),(some (32,true))⟩,[]),(⟨(some 36),(.call 47 [(.t 35)]),(some (32,true))⟩,[]),(⟨(some 37),(.bin .eql (.t 34) (.t 36)),(some (32,true))⟩,[]),(⟨(some 38),(.pick (.t 32) (.t 37) (.c (.bool false))),none⟩,[]),(⟨(some 39),(.bg (.t 38)),none⟩,[]),(⟨(some 40),(.bg (.t 8)),(some (39,true))⟩,[]),(⟨(some 41),(.bg (.t 9)),(some (39,true))⟩,[]),(⟨(some 42),(.call 49 [(.t 40),(.t 41)]),(some (39,true))⟩,[]),(⟨(some 43),(.bg (.t 8)),(some (39,true))⟩,[]),(⟨(some 44),(.bg (.t 9)),(some (39,true))⟩,[])] [⟨(some 45),(.call 50 [(.t 43),(.t 44)]),(some (39,true))⟩,⟨(some 46),(.call 48 [(.t 42),(.t 45)]),(some (39,true))⟩,⟨(some 47),(.pick (.t 39) (.t 46) (.c (.bool false))),none⟩,⟨(some 6),(.bg (.t 47)),none⟩]) .ret))))))
def Ce:List bo:=[(.tmp 6)]
def ajc:a3:=(.seq (.cC [⟨(some 2),(.box (.t 0)),none⟩,⟨(some 3),(.box (.t 1)),none⟩,⟨(some 4),(.bg (.c (.bool false))),none⟩]) (.seq (.cC [⟨(some 14),(.call 42 []),none⟩,⟨(some 5),(.bg (.t 14)),none⟩]) (.seq (.seq (.cC [⟨(some 15),(.load 2 true (.t 2)),none⟩,⟨(some 16),(.call 43 [(.t 15)]),none⟩,⟨(some 17),(.un .not (.t 16)),none⟩,⟨(some 18),(.bg (.t 17)),none⟩,⟨(some 19),(.load 2 true (.t 3)),(some (18,false))⟩,⟨(some 20),(.call 43 [(.t 19)]),(some (18,false))⟩,⟨(some 21),(.un .not (.t 20)),(some (18,false))⟩,⟨(some 22),(.pick (.t 18) (.c (.bool true)) (.t 21)),none⟩]) (.cond (.t 22) (.seq (.cC [⟨(some 23),(.bg (.t 5)),none⟩,⟨(some 4),(.bg (.t 23)),none⟩]) .ret) .skip)) (.seq (.oW [(⟨(some 24),(.load 2 true (.t 2)),none⟩,[]),(⟨(some 25),(.call 44 [(.t 24)]),none⟩,[88888888]),(⟨(some 26),(.load 2 true (.t 2)),none⟩,[]),(⟨(some 27),(.call 46 [(.t 26)]),none⟩,[88888888]),(⟨(some 28),(.load 2 true (.t 3)),none⟩,[]),(⟨(some 29),(.call 44 [(.t 28)]),none⟩,[88888888]),(⟨(some 30),(.load 2 true (.t 3)),none⟩,[]),(⟨(some 31),(.call 46 [(.t 30)]),none⟩,[88888888]),(⟨(some 32),(.load 2 true (.t 2)),none⟩,[]),(⟨(some 33),(.load 2 true (.t 3)),none⟩,[]),(⟨(some 34),(.call 61 [(.t 32),(.t 33)]),none⟩,[88888888]),(⟨(some 35),(.call 44 [(.t 34)]),none⟩,[88888888]),(⟨(some 36),(.load 2 true (.t 2)),none⟩,[]),(⟨(some 37),(.load 2 true (.t 3)),none⟩,[])] [⟨(some 38),(.call 61 [(.t 36),(.t 37)]),none⟩,⟨(some 39),(.call 46 [(.t 38)]),none⟩,⟨(some 40),(.rI .flts [(.t 25),(.t 27),(.t 29),(.t 31),(.t 35),(.t 39)]),none⟩,⟨(some 6),(.bg (.t 40)),none⟩]) (.seq (.cC [⟨(some 7),(.nil (.recs 3)),none⟩]) (.cut (.seq (.cC [⟨(some 8),(.bg (.c (.int .i64 0))),none⟩]) (.block 0 (.loop (.seq (.seq (.cC [⟨(some 41),(.bg (.t 8)),none⟩,⟨(some 42),(.bg (.t 6)),none⟩,⟨(some 43),(.len (.t 42)),none⟩,⟨(some 44),(.bin .lss (.t 41) (.t 43)),none⟩]) (.cond (.t 44) .skip (.exit 0))) (.seq (.block 1 (.seq (.seq (.cC [⟨(some 47),(.bg (.t 6)),none⟩,⟨(some 48),(.bg (.t 8)),none⟩,⟨(some 49),(.iE 1 (.t 47) (.t 48)),none⟩,⟨(some 50),(.load 1 false (.t 49)),none⟩,⟨(some 51),(.call 52 [(.t 50)]),none⟩,⟨(some 52),(.un .not (.t 51)),none⟩]) (.cond (.t 52) (.seq (.cC [⟨(some 4),(.bg (.c (.bool false))),none⟩]) .ret) .skip)) (.seq (.cC [⟨(some 54),(.bg (.t 6)),none⟩,⟨(some 55),(.bg (.t 8)),none⟩,⟨(some 56),(.iE 1 (.t 54) (.t 55)),none⟩,⟨(some 57),(.load 1 false (.t 56)),none⟩,⟨(some 58),(.call 53 [(.t 57)]),none⟩,⟨(some 53),(.bg (.t 58)),none⟩,⟨(some 59),(.l5 0 (.t 53)),none⟩,⟨(some 60),(.l5 1 (.t 53)),none⟩,⟨(some 9),(.alloc [(.bool false),(.ints .i64 []),(.int .i64 0)]),none⟩,⟨none,(.store 3 (.t 9) (.t 59)),none⟩,⟨(some 10),(.bg (.t 60)),none⟩]) (.cC [⟨(some 61),(.bg (.t 7)),none⟩,⟨(some 62),(.load 3 true (.t 9)),none⟩,⟨(some 63),(.rI (.recs 3) [(.t 62)]),none⟩,⟨(some 64),(.app (.recs 3) (.t 61) (.t 63)),none⟩,⟨(some 7),(.bg (.t 64)),none⟩])))) (.cC [⟨(some 45),(.bg (.t 8)),none⟩,⟨(some 46),(.bin .add (.t 45) (.c (.int .i64 1))),none⟩,⟨(some 8),(.bg (.t 46)),none⟩])))))) (.seq (.oW [(⟨(some 65),(.bg (.t 7)),none⟩,[11]),(⟨(some 66),(.iE 3 (.t 65) (.c (.int .i64 0))),none⟩,[11]),(⟨(some 67),(.load 3 true (.t 66)),none⟩,[11]),(⟨(some 68),(.bg (.t 7)),none⟩,[11]),(⟨(some 69),(.iE 3 (.t 68) (.c (.int .i64 2))),none⟩,[11]),(⟨(some 70),(.load 3 true (.t 69)),none⟩,[11]),(⟨(some 71),(.call 58 [(.t 67),(.t 70)]),none⟩,[11,88888888]),(⟨(some 72),(.bg (.t 7)),none⟩,[11]),(⟨(some 73),(.iE 3 (.t 72) (.c (.int .i64 1))),none⟩,[11]),(⟨(some 74),(.load 3 true (.t 73)),none⟩,[11]),(⟨(some 75),(.bg (.t 7)),none⟩,[11]),(⟨(some 76),(.iE 3 (.t 75) (.c (.int .i64 3))),none⟩,[11]),(⟨(some 77),(.load 3 true (.t 76)),none⟩,[11]),(⟨(some 78),(.call 58 [(.t 74),(.t 77)]),none⟩,[11,88888888]),(⟨(some 79),(.call 62 [(.t 78)]),none⟩,[11,88888888]),(⟨(some 80),(.call 56 [(.t 71),(.t 79)]),none⟩,[11,88888888]),(⟨(some 81),(.bg (.t 7)),none⟩,[11]),(⟨(some 82),(.iE 3 (.t 81) (.c (.int .i64 4))),none⟩,[11]),(⟨(some 83),(.load 3 true (.t 82)),none⟩,[11]),(⟨(some 84),(.call 62 [(.t 83)]),none⟩,[11,88888888]),(⟨(some 85),(.call 56 [(.t 80),(.t 84)]),none⟩,[11,88888888]),(⟨(some 11),(.alloc [(.bool false),(.ints .i64 []),(.int .i64 0)]),none⟩,[])] [⟨none,(.store 3 (.t 11) (.t 85)),none⟩]) (.seq (.oW [(⟨(some 86),(.bg (.t 7)),none⟩,[12]),(⟨(some 87),(.iE 3 (.t 86) (.c (.int .i64 1))),none⟩,[12]),(⟨(some 88),(.load 3 true (.t 87)),none⟩,[12]),(⟨(some 89),(.bg (.t 7)),none⟩,[12]),(⟨(some 90),(.iE 3 (.t 89) (.c (.int .i64 2))),none⟩,[12]),(⟨(some 91),(.load 3 true (.t 90)),none⟩,[12]),(⟨(some 92),(.call 58 [(.t 88),(.t 91)]),none⟩,[12,88888888]),(⟨(some 93),(.bg (.t 7)),none⟩,[12]),(⟨(some 94),(.iE 3 (.t 93) (.c (.int .i64 0))),none⟩,[12]),(⟨(some 95),(.load 3 true (.t 94)),none⟩,[12]),(⟨(some 96),(.bg (.t 7)),none⟩,[12]),(⟨(some 97),(.iE 3 (.t 96) (.c (.int .i64 3))),none⟩,[12]),(⟨(some 98),(.load 3 true (.t 97)),none⟩,[12]),(⟨(some 99),(.call 58 [(.t 95),(.t 98)]),none⟩,[12,88888888]),(⟨(some 100),(.call 56 [(.t 92),(.t 99)]),none⟩,[12,88888888]),(⟨(some 101),(.bg (.t 7)),none⟩,[12]),(⟨(some 102),(.iE 3 (.t 101) (.c (.int .i64 5))),none⟩,[12]),(⟨(some 103),(.load 3 true (.t 102)),none⟩,[12]),(⟨(some 104),(.call 62 [(.t 103)]),none⟩,[12,88888888]),(⟨(some 105),(.call 56 [(.t 100),(.t 104)]),none⟩,[12,88888888]),(⟨(some 12),(.alloc [(.bool false),(.ints .i64 []),(.int .i64 0)]),none⟩,[])] [⟨none,(.store 3 (.t 12) (.t 105)),none⟩]) (.seq (.cC [⟨(some 106),(.fM 0 (.t 11)),none⟩,⟨none,(.store 1 (.t 106) (.c (.bool false))),none⟩]) (.seq (.cC [⟨(some 107),(.fM 0 (.t 12)),none⟩,⟨none,(.store 1 (.t 107) (.c (.bool false))),none⟩]) (.seq (.cC [⟨(some 108),(.rI (.ints .i64) [(.c (.int .i64 1))]),none⟩,⟨(some 109),(.build [(.bool false),(.ints .i64 []),(.int .i64 0)] [(1,(1,(.t 108))),(2,(1,(.c (.int .i64 (-50)))))]),none⟩,⟨(some 13),(.alloc [(.bool false),(.ints .i64 []),(.int .i64 0)]),none⟩,⟨none,(.store 3 (.t 13) (.t 109)),none⟩]) (.seq (.cC [⟨(some 110),(.bg (.t 5)),none⟩,⟨(some 111),(.bg (.t 110)),none⟩,⟨(some 112),(.load 3 true (.t 11)),(some (111,true))⟩,⟨(some 113),(.load 3 true (.t 13)),(some (111,true))⟩,⟨(some 114),(.call 57 [(.t 112),(.t 113)]),(some (111,true))⟩,⟨(some 115),(.bin .leq (.t 114) (.c (.int .i64 0))),(some (111,true))⟩,⟨(some 116),(.pick (.t 111) (.t 115) (.c (.bool false))),none⟩,⟨(some 117),(.bg (.t 116)),none⟩,⟨(some 118),(.load 3 true (.t 12)),(some (117,true))⟩,⟨(some 119),(.load 3 true (.t 13)),(some (117,true))⟩,⟨(some 120),(.call 57 [(.t 118),(.t 119)]),(some (117,true))⟩,⟨(some 121),(.bin .leq (.t 120) (.c (.int .i64 0))),(some (117,true))⟩,⟨(some 122),(.pick (.t 117) (.t 121) (.c (.bool false))),none⟩,⟨(some 4),(.bg (.t 122)),none⟩]) .ret))))))))))))
def ajd:List bo:=[(.tmp 4)]
def Vb:=a3.mk bE 20
def Vc:List bo:=[(.cell 4 6 true),(.tmp 5)]
def Vd:=a3.mk bE 24
def afQ:List bo:=[(.cell 2 6 true)]
def Ve:=a3.mk bE 28
def Vf:List bo:=[(.tmp 4)]
def afR:=a3.mk bE 32
def afS:List bo:=[(.cell 2 6 true)]
def afT:=a3.mk bE 36
def afU:List bo:=[(.cell 4 6 true)]
def afV:=a3.mk bE 40
def afW:List bo:=[(.cell 4 6 true)]
def afX:=a3.mk bE 44
def afY:List bo:=[(.tmp 2)]
def Vg:=a3.mk bE 48
def Vh:List bo:=[(.tmp 4)]
def afZ:=a3.mk bE 52
def af0:List bo:=[(.tmp 2)]
def Pn:=a3.mk bE 56
def Po:List bo:=[(.cell 4 3 true)]
def af1:=a3.mk bE 60
def af2:List bo:=[(.cell 2 2 true)]
def af3:=a3.mk bE 64
def af4:List bo:=[(.cell 2 6 true)]
def Pp:=a3.mk bE 76
def Pq:List bo:=[(.tmp 2)]
def Pr:=a3.mk bE 80
def Ps:List bo:=[(.tmp 2)]
def af5:=a3.mk bE 84
def af6:List bo:=[(.cell 4 3 true)]
def af7:=a3.fE bE 88
def af8:List bo:=[(.cell 4 3 true)]
def Pt:=a3.mk bE 92
def Pu:List bo:=[(.cell 6 3 true)]
def af9:=a3.mk bE 96
def aga:List bo:=[(.tmp 2),(.tmp 3)]
def acg:=a3.mk bE 100
def ach:List bo:=[(.cell 4 2 true)]
def aci:=a3.fE bE 104
def acj:List bo:=[(.cell 2 2 true)]
def Oi:=a3.fE bE 112
def Oj:List bo:=[(.tmp 4)]
def Ok:=a3.fE bE 116
def ack:List bo:=[(.tmp 4)]
def Ol:=a3.mk bE 124
def Om:List bo:=[(.tmp 4)]
def Tw:=a3.mk bE 128
def Tx:List bo:=[(.tmp 2)]
def acm:=a3.fE bE 132
def acn:List bo:=[(.tmp 4)]
def Ty:=a3.fE bE 136
def On:List bo:=[(.tmp 2)]
def aco:=a3.fE bE 140
def Tz:=a3.fE bE 144
def TA:List bo:=[(.tmp 4)]
def acp:=a3.mk bE 148
def acq:List bo:=[(.cell 2 6 true)]
def acr:=a3.mk bE 152
def acs:List bo:=[(.tmp 2),(.tmp 3),(.tmp 4)]
def acu:=a3.fE bE 156
def acv:List bo:=[(.tmp 2)]
def acw:=a3.mk bE 164
def acx:List bo:=[]
def acy:=a3.mk bE 168
def acz:List bo:=[(.tmp 5)]
def acA:=a3.mk bE 172
def acB:List bo:=[(.tmp 5)]
def TB:=a3.mk bE 176
def Fk:List bo:=[(.tmp 4)]
def acC:=a3.mk bE 180
def acD:List bo:=[(.cell 4 6 true),(.tmp 5)]
def acE:=a3.mk bE 184
def acF:List bo:=[(.cell 2 2 true)]
def TC:=a3.mk bE 192
def TD:List bo:=[(.tmp 4)]
def acG:a3:=(.seq (.cC [⟨(some 4),(.bg (.c (.flt 0))),none⟩]) (.seq (.block 0 (.seq (.cC [⟨(some 9),(.bg (.t 0)),none⟩,⟨(some 10),(.bin .eql (.t 9) (.c (.flt 0))),none⟩,⟨(some 8),(.bg (.t 10)),none⟩]) (.cond (.t 8) (.seq (.cC [⟨(some 11),(.bg (.t 0)),none⟩,⟨(some 4),(.bg (.t 11)),none⟩]) .ret) (.seq (.cC [⟨(some 13),(.bg (.t 0)),none⟩,⟨(some 14),(.call 203 [(.t 13),(.c (.int .i64 0))]),none⟩,⟨(some 15),(.bg (.t 14)),none⟩,⟨(some 16),(.bg (.t 0)),(some (15,false))⟩,⟨(some 17),(.call 178 [(.t 16)]),(some (15,false))⟩,⟨(some 18),(.pick (.t 15) (.c (.bool true)) (.t 17)),none⟩,⟨(some 12),(.bg (.t 18)),none⟩]) (.cond (.t 12) (.seq (.cC [⟨(some 19),(.bg (.t 0)),none⟩,⟨(some 4),(.bg (.t 19)),none⟩]) .ret) .skip))))) (.seq (.cC [⟨(some 21),(.bg (.t 0)),none⟩,⟨(some 22),(.call 204 [(.t 21)]),none⟩,⟨(some 20),(.bg (.t 22)),none⟩,⟨(some 23),(.l5 0 (.t 20)),none⟩,⟨(some 24),(.l5 1 (.t 20)),none⟩,⟨(some 0),(.bg (.t 23)),none⟩,⟨(some 5),(.bg (.t 24)),none⟩]) (.seq (.cC [⟨(some 25),(.bg (.t 1)),none⟩,⟨(some 26),(.bg (.t 5)),none⟩,⟨(some 27),(.bin .add (.t 25) (.t 26)),none⟩,⟨(some 1),(.bg (.t 27)),none⟩]) (.seq (.cC [⟨(some 28),(.bg (.t 0)),none⟩,⟨(some 29),(.sj (.t 28)),none⟩,⟨(some 6),(.bg (.t 29)),none⟩]) (.seq (.cC [⟨(some 30),(.bg (.t 1)),none⟩,⟨(some 31),(.bg (.t 6)),none⟩,⟨(some 32),(.bin .shr (.t 31) (.c (.int .u64 52))),none⟩,⟨(some 33),(.conv .i64 (.t 32)),none⟩,⟨(some 34),(.bin .and (.t 33) (.c (.int .i64 2047))),none⟩,⟨(some 35),(.bin .sub (.t 34) (.c (.int .i64 1023))),none⟩,⟨(some 36),(.bin .add (.t 30) (.t 35)),none⟩,⟨(some 1),(.bg (.t 36)),none⟩]) (.seq (.seq (.cC [⟨(some 37),(.bg (.t 1)),none⟩,⟨(some 38),(.bin .lss (.t 37) (.c (.int .i64 (-1075)))),none⟩]) (.cond (.t 38) (.seq (.cC [⟨(some 39),(.bg (.t 0)),none⟩,⟨(some 40),(.call 205 [(.c (.flt 0)),(.t 39)]),none⟩,⟨(some 4),(.bg (.t 40)),none⟩]) .ret) .skip)) (.seq (.seq (.cC [⟨(some 41),(.bg (.t 1)),none⟩,⟨(some 42),(.bin .gtr (.t 41) (.c (.int .i64 1023))),none⟩]) (.cond (.t 42) (.seq (.seq (.cC [⟨(some 43),(.bg (.t 0)),none⟩,⟨(some 44),(.bin .lss (.t 43) (.c (.flt 0))),none⟩]) (.cond (.t 44) (.seq (.cC [⟨(some 45),(.call 174 [(.c (.int .i64 (-1)))]),none⟩,⟨(some 4),(.bg (.t 45)),none⟩]) .ret) .skip)) (.seq (.cC [⟨(some 46),(.call 174 [(.c (.int .i64 1))]),none⟩,⟨(some 4),(.bg (.t 46)),none⟩]) .ret)) .skip)) (.seq (.cC [⟨(some 7),(.bg (.c (.flt 4607182418800017408))),none⟩]) (.seq (.seq (.cC [⟨(some 47),(.bg (.t 1)),none⟩,⟨(some 48),(.bin .lss (.t 47) (.c (.int .i64 (-1022)))),none⟩]) (.cond (.t 48) (.seq (.cC [⟨(some 49),(.bg (.t 1)),none⟩,⟨(some 50),(.bin .add (.t 49) (.c (.int .i64 53))),none⟩,⟨(some 1),(.bg (.t 50)),none⟩]) (.cC [⟨(some 7),(.bg (.c (.flt 4368491638549381120))),none⟩])) .skip)) (.seq (.cC [⟨(some 51),(.bg (.t 6)),none⟩,⟨(some 52),(.bin .andNot (.t 51) (.c (.int .u64 9218868437227405312))),none⟩,⟨(some 6),(.bg (.t 52)),none⟩]) (.seq (.cC [⟨(some 53),(.bg (.t 6)),none⟩,⟨(some 54),(.bg (.t 1)),none⟩,⟨(some 55),(.bin .add (.t 54) (.c (.int .i64 1023))),none⟩,⟨(some 56),(.conv .u64 (.t 55)),none⟩,⟨(some 57),(.bin .shl (.t 56) (.c (.int .u64 52))),none⟩,⟨(some 58),(.bin .or (.t 53) (.t 57)),none⟩,⟨(some 6),(.bg (.t 58)),none⟩]) (.seq (.cC [⟨(some 59),(.bg (.t 7)),none⟩,⟨(some 60),(.bg (.t 6)),none⟩,⟨(some 61),(.oT (.t 60)),none⟩,⟨(some 62),(.bin .mul (.t 59) (.t 61)),none⟩,⟨(some 4),(.bg (.t 62)),none⟩]) .ret)))))))))))))
def acH:List bo:=[(.tmp 4)]
def acI:=ji.mk bE 200
def acJ:List bo:=[(.cell 4 12 true)]
def acK:=a3.mk bE 204
def acL:List bo:=[(.tmp 2),(.tmp 3)]
def acM:=a3.mk bE 208
def acN:List bo:=[(.tmp 2)]
def TE:=a3.mk bE 212
def TF:List bo:=[(.cell 3 6 true)]
end
end RV.Dr
namespace RV.Dr
open Go RV Go.Proofs
set_option maxRecDepth 100000
noncomputable section
def LK:=a3.mk bE 5
def HH:List bo:=[(.tmp 4)]
def aje:a3:=(.seq (.cC [⟨(some 6),(.bg (.c (.bool false))),none⟩]) (.seq (.cC [⟨(some 13),(.call 42 []),none⟩,⟨(some 7),(.bg (.t 13)),none⟩]) (.seq (.cC [⟨(some 14),(.bg (.t 0)),none⟩,⟨(some 15),(.conv .i64 (.t 14)),none⟩,⟨(some 16),(.bin .rem (.t 15) (.c (.int .i64 7))),none⟩,⟨(some 8),(.bg (.t 16)),none⟩]) (.seq (.cC [⟨(some 17),(.bg (.t 1)),none⟩,⟨(some 18),(.conv .i64 (.t 17)),none⟩,⟨(some 19),(.bg (.t 8)),none⟩,⟨(some 20),(.bin .shl (.c (.int .i64 1)) (.t 19)),none⟩,⟨(some 21),(.bin .add (.t 20) (.c (.int .i64 1))),none⟩,⟨(some 22),(.bin .rem (.t 18) (.t 21)),none⟩,⟨(some 9),(.bg (.t 22)),none⟩]) (.seq (.cC [⟨(some 23),(.bg (.t 8)),none⟩,⟨(some 24),(.bg (.t 9)),none⟩,⟨(some 25),(.call 49 [(.t 23),(.t 24)]),none⟩,⟨(some 10),(.yk [.flts,.flts]),none⟩,⟨none,(.store 2 (.t 10) (.t 25)),none⟩]) (.seq (.seq (.cC [⟨(some 26),(.fM 0 (.t 10)),none⟩,⟨(some 27),(.load 1 false (.t 26)),none⟩,⟨(some 28),(.len (.t 27)),none⟩,⟨(some 29),(.bg (.t 9)),none⟩,⟨(some 30),(.bin .neq (.t 28) (.t 29)),none⟩,⟨(some 31),(.bg (.t 30)),none⟩,⟨(some 32),(.fM 1 (.t 10)),(some (31,false))⟩,⟨(some 33),(.load 1 false (.t 32)),(some (31,false))⟩,⟨(some 34),(.len (.t 33)),(some (31,false))⟩,⟨(some 35),(.bg (.t 9)),(some (31,false))⟩,⟨(some 36),(.bin .neq (.t 34) (.t 35)),(some (31,false))⟩,⟨(some 37),(.pick (.t 31) (.c (.bool true)) (.t 36)),none⟩]) (.cond (.t 37) (.seq (.cC [⟨(some 6),(.bg (.c (.bool false))),none⟩]) .ret) .skip)) (.seq (.seq (.cC [⟨(some 38),(.bg (.t 9)),none⟩,⟨(some 39),(.bin .eql (.t 38) (.c (.int .i64 0))),none⟩]) (.cond (.t 39) (.seq (.cC [⟨(some 40),(.bg (.t 7)),none⟩,⟨(some 6),(.bg (.t 40)),none⟩]) .ret) .skip)) (.seq (.cC [⟨(some 41),(.bg (.t 2)),none⟩,⟨(some 42),(.conv .i64 (.t 41)),none⟩,⟨(some 43),(.bg (.t 9)),none⟩,⟨(some 44),(.bin .rem (.t 42) (.t 43)),none⟩,⟨(some 11),(.bg (.t 44)),none⟩]) (.seq (.cC [⟨(some 45),(.bg (.t 11)),none⟩,⟨(some 46),(.bin .mul (.c (.int .i64 2)) (.t 45)),none⟩,⟨(some 47),(.bg (.t 8)),none⟩,⟨(some 48),(.bin .add (.t 47) (.c (.int .i64 1))),none⟩,⟨(some 49),(.build [(.int .i64 0),(.int .i64 0)] [(0,(1,(.t 46))),(1,(1,(.t 48)))]),none⟩,⟨(some 12),(.alloc [(.int .i64 0),(.int .i64 0)]),none⟩,⟨none,(.store 2 (.t 12) (.t 49)),none⟩]) (.seq (.oW [(⟨(some 50),(.bg (.t 7)),none⟩,[]),(⟨(some 51),(.bg (.t 50)),none⟩,[]),(⟨(some 52),(.fM 0 (.t 10)),(some (51,true))⟩,[]),(⟨(some 53),(.load 1 false (.t 52)),(some (51,true))⟩,[]),(⟨(some 54),(.bg (.t 11)),(some (51,true))⟩,[]),(⟨(some 55),(.iE 1 (.t 53) (.t 54)),(some (51,true))⟩,[]),(⟨(some 56),(.load 1 false (.t 55)),(some (51,true))⟩,[]),(⟨(some 57),(.load 2 true (.t 12)),(some (51,true))⟩,[]),(⟨(some 58),(.call 44 [(.t 57)]),(some (51,true))⟩,[88888888]),(⟨(some 59),(.bin .eql (.t 56) (.t 58)),(some (51,true))⟩,[]),(⟨(some 60),(.pick (.t 51) (.t 59) (.c (.bool false))),none⟩,[]),(⟨(some 61),(.bg (.t 60)),none⟩,[]),(⟨(some 62),(.fM 1 (.t 10)),(some (61,true))⟩,[]),(⟨(some 63),(.load 1 false (.t 62)),(some (61,true))⟩,[]),(⟨(some 64),(.bg (.t 11)),(some (61,true))⟩,[]),(⟨(some 65),(.iE 1 (.t 63) (.t 64)),(some (61,true))⟩,[]),(⟨(some 66),(.load 1 false (.t 65)),(some (61,true))⟩,[]),(⟨(some 67),(.load 2 true (.t 12)),(some (61,true))⟩,[]),(⟨(some 68),(.call 46 [(.t 67)]),(some (61,true))⟩,[88888888]),(⟨(some 69),(.bin .eql (.t 66) (.t 68)),(some (61,true))⟩,[]),(⟨(some 70),(.pick (.t 61) (.t 69) (.c (.bool false))),none⟩,[]),(⟨(some 71),(.bg (.t 70)),none⟩,[]),(⟨(some 72),(.fM 0 (.t 10)),(some (71,true))⟩,[]),(⟨(some 73),(.load 1 false (.t 72)),(some (71,true))⟩,[]),(⟨(some 74),(.bg (.t 11)),(some (71,true))⟩,[]),(⟨(some 75),(.iE 1 (.t 73) (.t 74)),(some (71,true))⟩,[]),(⟨(some 76),(.load 1 false (.t 75)),(some (71,true))⟩,[]),(⟨(some 77),(.call 63 [(.t 76)]),(some (71,true))⟩,[]),(⟨(some 78),(.bin .leq (.t 77) (.c (.flt 4607182418800017408))),(some (71,true))⟩,[]),(⟨(some 79),(.pick (.t 71) (.t 78) (.c (.bool false))),none⟩,[]),(⟨(some 80),(.bg (.t 79)),none⟩,[]),(⟨(some 81),(.fM 1 (.t 10)),(some (80,true))⟩,[]),(⟨(some 82),(.load 1 false (.t 81)),(some (80,true))⟩,[]),(⟨(some 83),(.bg (.t 11)),(some (80,true))⟩,[])] [⟨(some 84),(.iE 1 (.t 82) (.t 83)),(some (80,true))⟩,⟨(some 85),(.load 1 false (.t 84)),(some (80,true))⟩,⟨(some 86),(.call 64 [(.t 85)]),(some (80,true))⟩,⟨(some 87),(.call 59 [(.c (.int .i64 (-1)))]),(some (80,true))⟩,⟨(some 88),(.call 59 [(.c (.int .i64 1))]),(some (80,true))⟩,⟨(some 89),(.build [(.bool false),(.ints .i64 []),(.int .i64 0),(.bool false),(.ints .i64 []),(.int .i64 0)] [(0,(3,(.t 87))),(3,(3,(.t 88)))]),(some (80,true))⟩,⟨(some 90),(.call 28 [(.t 86),(.t 89)]),(some (80,true))⟩,⟨(some 91),(.pick (.t 80) (.t 90) (.c (.bool false))),none⟩,⟨(some 6),(.bg (.t 91)),none⟩]) .ret))))))))))
def ajf:List bo:=[(.tmp 6)]
def Vi:=a3.mk bE 21
def Vj:List bo:=[(.cell 4 6 true),(.tmp 5)]
def agb:=a3.mk bE 33
def agc:List bo:=[(.cell 2 6 true)]
def agd:=a3.mk bE 37
def age:List bo:=[(.cell 4 6 true)]
def agf:=a3.mk bE 41
def agh:List bo:=[(.cell 4 6 true)]
def agi:=a3.mk bE 45
def agj:List bo:=[(.tmp 2)]
def agk:=a3.mk bE 49
def agl:List bo:=[(.cell 4 2 true)]
def Vk:=a3.mk bE 53
def Vl:List bo:=[(.cell 2 3 true),(.tmp 3)]
def agm:=a3.mk bE 57
def agn:List bo:=[(.tmp 4)]
def ago:=a3.mk bE 61
def agp:List bo:=[(.cell 4 2 true)]
def Pv:=a3.mk bE 77
def Pw:List bo:=[(.cell 4 6 true)]
def Vm:=a3.mk bE 81
def Vn:List bo:=[(.cell 6 3 true)]
def agq:=a3.mk bE 85
def agr:List bo:=[(.cell 2 3 true)]
def ags:=a3.fE bE 89
def agt:List bo:=[(.cell 4 3 true)]
def agu:=a3.mk bE 93
def agv:List bo:=[(.tmp 2)]
def agw:=a3.mk bE 97
def agx:List bo:=[(.cell 4 6 true)]
def acO:=a3.fE bE 101
def acP:List bo:=[(.tmp 4)]
def acQ:=a3.mk bE 105
def acR:List bo:=[(.cell 6 6 true),(.cell 7 6 true)]
def TG:=a3.fE bE 109
def TH:List bo:=[(.cell 6 3 true)]
def acS:=a3.fE bE 113
def acT:List bo:=[(.tmp 4)]
def acU:=a3.mk bE 117
def acV:List bo:=[(.tmp 4)]
def acW:=a3.fE bE 129
def acX:List bo:=[(.tmp 4)]
def acY:=a3.mk bE 133
def acZ:List bo:=[(.tmp 4)]
def ac0:=a3.fE bE 137
def ac1:List bo:=[(.tmp 2)]
def ac2:=a3.mk bE 141
def ac3:List bo:=[(.cell 4 3 true)]
def JK:=a3.mk bE 145
def JL:List bo:=[(.tmp 2)]
def Oo:=a3.mk bE 149
def Oq:List bo:=[(.tmp 2)]
def ac4:=a3.mk bE 153
def ac5:List bo:=[(.cell 2 3 true)]
def ac6:=a3.mk bE 157
def ac7:List bo:=[(.tmp 4)]
def ac8:=a3.mk bE 161
def ac9:List bo:=[(.tmp 2)]
def TI:=a3.fE bE 165
def TJ:List bo:=[(.tmp 4)]
def TK:=a3.fE bE 169
def TL:List bo:=[(.tmp 4)]
def ada:=a3.mk bE 173
def adb:List bo:=[(.tmp 2)]
def ade:=a3.mk bE 177
def adf:List bo:=[(.cell 2 3 true)]
def adg:=a3.mk bE 181
def adh:List bo:=[(.cell 4 12 true)]
def adi:=a3.mk bE 185
def adj:List bo:=[(.cell 4 2 true)]
def adk:=a3.fE bE 189
def adl:List bo:=[(.tmp 4)]
def adn:=ji.mk bE 197
def ado:List bo:=[(.tmp 2),(.tmp 3)]
def adp:=a3.fE bE 201
def adq:List bo:=[(.tmp 2),(.tmp 3)]
def adr:a3:=(.seq (.cC [⟨(some 3),(.box (.t 0)),none⟩,⟨(some 4),(.box (.t 1)),none⟩,⟨(some 6),(.alloc [(.bool false),(.ints .i64 []),(.int .i64 0),(.bool false),(.ints .i64 []),(.int .i64 0),(.bool false),(.ints .i64 []),(.int .i64 0),(.bool false),(.ints .i64 []),(.int .i64 0)]),none⟩]) (.seq (.oW [(⟨(some 7),(.fM 0 (.t 3)),none⟩,[]),(⟨(some 8),(.load 6 true (.t 7)),none⟩,[]),(⟨(some 9),(.fM 0 (.t 4)),none⟩,[]),(⟨(some 10),(.load 6 true (.t 9)),none⟩,[]),(⟨(some 11),(.call 38 [(.t 8),(.t 10)]),none⟩,[88888888]),(⟨(some 12),(.fM 6 (.t 3)),none⟩,[]),(⟨(some 13),(.load 6 true (.t 12)),none⟩,[]),(⟨(some 14),(.fM 6 (.t 4)),none⟩,[]),(⟨(some 15),(.load 6 true (.t 14)),none⟩,[]),(⟨(some 16),(.call 38 [(.t 13),(.t 15)]),none⟩,[88888888]),(⟨(some 17),(.call 32 [(.t 16)]),none⟩,[88888888]),(⟨(some 18),(.call 36 [(.t 11),(.t 17)]),none⟩,[88888888]),(⟨(some 19),(.bg (.t 2)),none⟩,[]),(⟨(some 20),(.call 40 [(.t 18),(.t 19)]),none⟩,[88888888]),(⟨(some 21),(.fM 6 (.t 3)),none⟩,[]),(⟨(some 22),(.load 6 true (.t 21)),none⟩,[]),(⟨(some 23),(.fM 0 (.t 4)),none⟩,[]),(⟨(some 24),(.load 6 true (.t 23)),none⟩,[]),(⟨(some 25),(.call 38 [(.t 22),(.t 24)]),none⟩,[88888888]),(⟨(some 26),(.fM 0 (.t 3)),none⟩,[]),(⟨(some 27),(.load 6 true (.t 26)),none⟩,[]),(⟨(some 28),(.fM 6 (.t 4)),none⟩,[]),(⟨(some 29),(.load 6 true (.t 28)),none⟩,[]),(⟨(some 30),(.call 38 [(.t 27),(.t 29)]),none⟩,[]),(⟨(some 31),(.call 36 [(.t 25),(.t 30)]),none⟩,[]),(⟨(some 32),(.bg (.t 2)),none⟩,[])] [⟨(some 33),(.call 40 [(.t 31),(.t 32)]),none⟩,⟨(some 34),(.build [(.bool false),(.ints .i64 []),(.int .i64 0),(.bool false),(.ints .i64 []),(.int .i64 0),(.bool false),(.ints .i64 []),(.int .i64 0),(.bool false),(.ints .i64 []),(.int .i64 0)] [(0,(6,(.t 20))),(6,(6,(.t 33)))]),none⟩,⟨none,(.store 12 (.t 6) (.t 34)),none⟩]) .ret))
def ads:List bo:=[(.cell 6 12 true)]
end
end RV.Dr
namespace RV.Dr
open Go RV Go.Proofs
set_option maxRecDepth 100000
noncomputable section
def ajg:=a3.mk bE 6
def ajh:List bo:=[(.tmp 2)]
def agy:=a3.mk bE 30
def agz:List bo:=[(.cell 2 3 true)]
def agA:=a3.mk bE 34
def agB:List bo:=[(.cell 4 6 true)]
def agC:=ji.mk bE 38
def agD:List bo:=[(.cell 4 6 true)]
def agE:=a3.mk bE 42
def agF:List bo:=[(.tmp 0)]
def agG:=a3.mk bE 46
def agH:List bo:=[(.tmp 2)]
def Vo:=a3.fE bE 50
def agI:List bo:=[(.cell 4 2 true)]
def KO:a3:=(.seq (.cC [⟨(some 2),(.bg (.c (.flt 0))),none⟩]) (.seq (.seq (.cC [⟨(some 4),(.bg (.t 0)),none⟩,⟨(some 5),(.bg (.t 0)),none⟩,⟨(some 6),(.bin .neq (.t 4) (.t 5)),none⟩,⟨(some 7),(.bg (.t 6)),none⟩,⟨(some 8),(.bg (.t 0)),(some (7,false))⟩,⟨(some 9),(.bin .gtr (.t 8) (.c (.flt 9218868437227405311))),(some (7,false))⟩,⟨(some 10),(.pick (.t 7) (.c (.bool true)) (.t 9)),none⟩]) (.cond (.t 10) (.seq (.cC [⟨(some 11),(.bg (.t 0)),none⟩,⟨(some 2),(.bg (.t 11)),none⟩]) .ret) .skip)) (.seq (.seq (.cC [⟨(some 12),(.bg (.t 0)),none⟩,⟨(some 13),(.bin .eql (.t 12) (.c (.flt 0))),none⟩]) (.cond (.t 13) (.seq (.cC [⟨(some 14),(.oT (.c (.int .u64 1))),none⟩,⟨(some 2),(.bg (.t 14)),none⟩]) .ret) .skip)) (.seq (.cC [⟨(some 15),(.bg (.t 0)),none⟩,⟨(some 16),(.sj (.t 15)),none⟩,⟨(some 3),(.bg (.t 16)),none⟩]) (.seq (.seq (.cC [⟨(some 17),(.bg (.t 0)),none⟩,⟨(some 18),(.bin .gtr (.t 17) (.c (.flt 0))),none⟩]) (.cond (.t 18) (.seq (.cC [⟨(some 19),(.bg (.t 3)),none⟩,⟨(some 20),(.bin .add (.t 19) (.c (.int .u64 1))),none⟩,⟨(some 21),(.oT (.t 20)),none⟩,⟨(some 2),(.bg (.t 21)),none⟩]) .ret) .skip)) (.seq (.cC [⟨(some 22),(.bg (.t 3)),none⟩,⟨(some 23),(.bin .sub (.t 22) (.c (.int .u64 1))),none⟩,⟨(some 24),(.oT (.t 23)),none⟩,⟨(some 2),(.bg (.t 24)),none⟩]) .ret))))))
def KP:List bo:=[(.tmp 2)]
def agJ:=a3.mk bE 58
def agK:List bo:=[(.cell 4 3 true)]
def Px:=a3.mk bE 62
def Py:List bo:=[(.cell 2 3 true)]
def agL:=a3.fE bE 70
def agM:List bo:=[(.tmp 4)]
def agN:=a3.mk bE 74
def agO:List bo:=[(.tmp 4)]
def agP:=a3.mk bE 78
def agQ:List bo:=[(.cell 5 3 true)]
def agR:=a3.mk bE 82
def agS:List bo:=[(.cell 4 3 true)]
def agT:=a3.mk bE 86
def agU:List bo:=[(.cell 5 3 true)]
def agV:=a3.mk bE 90
def agW:List bo:=[(.cell 5 3 true)]
def adt:=a3.afr bE 94
def adu:=iT.afs bE 94
def ata:=iT.aft bE 94
def agX:List bo:=[(.tmp 4)]
def agY:=a3.fE bE 98
def agZ:List bo:=[(.tmp 4)]
def adv:=a3.mk bE 102
def adw:List bo:=[(.tmp 3)]
def adx:=a3.fE bE 106
def ady:List bo:=[(.tmp 4)]
def Ot:=a3.fE bE 110
def adz:List bo:=[(.tmp 2)]
def Fl:=a3.fE bE 114
def yE:List bo:=[(.tmp 4)]
def adA:=a3.mk bE 126
def adB:List bo:=[(.tmp 2)]
def adC:=a3.fE bE 130
def adD:List bo:=[(.tmp 2)]
def adE:=a3.fE bE 134
def adF:List bo:=[(.tmp 2)]
def adG:=a3.mk bE 138
def adH:List bo:=[(.tmp 4)]
def TM:=a3.mk bE 142
def TN:List bo:=[(.tmp 4)]
def Ou:=a3.mk bE 146
def Ov:List bo:=[(.tmp 4)]
def adI:=a3.mk bE 150
def adJ:List bo:=[(.cell 2 6 true)]
def adK:=a3.fE bE 154
def adL:List bo:=[(.cell 6 6 true),(.cell 7 6 true)]
def adM:=a3.mk bE 162
def adN:List bo:=[(.tmp 4)]
def Ow:=a3.mk bE 166
def Ox:List bo:=[(.tmp 4)]
def adO:=a3.mk bE 170
def adP:List bo:=[(.tmp 2)]
def adQ:=a3.mk bE 178
def adR:List bo:=[(.tmp 2)]
def TO:=a3.mk bE 182
def Fm:List bo:=[(.tmp 4)]
def adS:=a3.mk bE 190
def adT:List bo:=[(.tmp 2)]
def adU:=a3.mk bE 198
def adV:List bo:=[(.cell 4 3 true)]
def adW:=a3.mk bE 202
def adX:List bo:=[]
def adY:=a3.mk bE 206
def adZ:List bo:=[(.tmp 2)]
def ad0:=a3.mk bE 210
end
end RV.Dr
namespace RV
open Go
def Env.none:Env:=⟨fun _=>Option.none,fun _=>Option.none⟩
def Env.add (Γ:Env) (f:Nat) (C:br):Env:=⟨fun g=>if g=f then some C else Γ.fn g,Γ.mt⟩
def Env.c9 (Γ:Env) (f:Nat) (C:gu):Env:=⟨Γ.fn,fun g=>if g=f then some C else Γ.mt g⟩
theorem ah.none (P:Program) (B:Mem):ah P B Env.none:=⟨(fun f C h=>by cases h),(fun f C h=>by cases h)⟩
theorem ah.add {P:Program} {B:Mem} {Γ:Env} (h:ah P B Γ) {f:Nat} {C:br} (hf:l8 P B f C):ah P B (Γ.add f C):=by
 refine⟨fun g D bb=> ?_,h.2⟩
 simp only[Env.add]at bb
 split at bb
 ·rename_i e;subst e;simp only[Option.some.injEq]at bb;subst bb;exact hf
 ·exact h.1 g D bb
theorem ah.c9 {P:Program} {B:Mem} {Γ:Env} (h:ah P B Γ) {f:Nat} {C:gu} (hf:O3 P B f C):ah P B (Γ.c9 f C):=by
 refine⟨h.1,fun g D bb=> ?_⟩
 simp only[Env.c9]at bb
 split at bb
 ·rename_i e;subst e;simp only[Option.some.injEq]at bb;subst bb;exact hf
 ·exact h.2 g D bb
def br.below (C:br) (eT:List D→Nat) (n:Nat):br:=⟨fun ds=>C.pre ds∧eT ds<n,C.res,C.own⟩
end RV
namespace RV
open Go Go.RowKit
end RV
namespace RV
open Go
def zK (P:Program) (f:Nat):Bool:=match P.funcs[f]? with
 |some fn=> !(fn.name== "runtime.NumGoroutine")
 |none=>false
theorem Ef {P:Program} {f:Nat} (h:zK P f=true):∃fn,P.funcs[f]? =some fn∧(fn.name== "runtime.NumGoroutine")=false:=by
 unfold zK at h
 split at h
 ·rename_i fn e
  exact⟨fn,e,by simpa using h⟩
 ·cases h
section
variable {P:Program} {B:Mem} {Γ:Env} {f:Nat} {rs:List bo} {lc LJ:a3} {c7:ji} {b4 dJ:iT} {S:Nat→Option k0}
theorem ah.p (h:ah P B Γ) (hm:P.follows .mixedOrders=true) {C:br} (aQ:∀ds,C.pre ds→bK Γ lc rs ds fun d=>d=C.res ds) (hf:qY P f=some (lc,rs):=by kernel_rfl) (bb:zK P f=true:=by kernel_rfl) (bz:C.own=false:=by rfl):ah P B (Γ.add f C):=
 let ⟨_,a,b⟩:=Ef bb
 ah.add h (arN hm h a b hf aQ bz)
theorem ah.o (h:ah P B Γ) (hm:P.follows .mixedOrders=true) {C:br} (aQ:∀ds,C.pre ds→Fa Γ lc rs ds fun d=>d=C.res ds) (hf:qY P f=some (lc,rs):=by kernel_rfl) (bb:zK P f=true:=by kernel_rfl) (bz:C.own=true:=by rfl):ah P B (Γ.add f C):=
 let ⟨_,a,b⟩:=Ef bb
 ah.add h (ap0 hm h a b hf aQ bz)
theorem ah.g (h:ah P B Γ) (hm:P.follows .mixedOrders=true) {C:br} (aQ:∀ds,C.pre ds→C3 Γ LJ b4 dJ rs ds fun d=>d=C.res ds) (hf:EC P f=some (LJ,b4,dJ,rs):=by kernel_rfl) (bb:zK P f=true:=by kernel_rfl) (bz:C.own=false:=by rfl):ah P B (Γ.add f C):=
 let ⟨_,a,b⟩:=Ef bb
 ah.add h (ara hm h a b hf aQ bz)
theorem ah.x (h:ah P B Γ) (hm:P.follows .mixedOrders=true) {C:br} (jG:Fj P B S) (aQ:∀ds,C.pre ds→zN Γ S c7 rs ds fun d=>d=C.res ds) (hf:IG P f=some (c7,rs):=by kernel_rfl) (bb:zK P f=true:=by kernel_rfl) (bz:C.own=false:=by rfl):ah P B (Γ.add f C):=
 let ⟨_,a,b⟩:=Ef bb
 ah.add h (aq7 hm h jG a b hf aQ bz)
theorem ah.m (h:ah P B Γ) (hm:P.follows .mixedOrders=true) {C:gu} (aQ:∀bm cs,C.pre bm cs→l7 Γ lc rs bm cs fun d cs'=>d=C.res bm cs∧cs'=C.out bm cs) (hf:qY P f=some (lc,rs):=by kernel_rfl) (bb:zK P f=true:=by kernel_rfl):ah P B (Γ.c9 f C):=
 let ⟨_,a,b⟩:=Ef bb
 ah.c9 h (ap1 hm h a b hf aQ)
theorem ah.s (h:ah P B Γ) (hm:P.follows .mixedOrders=true) {C:k0} (aQ:∀ds,C.pre ds→∀M l,zO Γ (C.seq ds) M l lc ds) (hf:qY P f=some (lc,[]):=by kernel_rfl) (bb:zK P f=true:=by kernel_rfl):Fj P B (fun g=>if g=f then some C else Option.none):=by
 obtain⟨_,a,b⟩:=Ef bb
 intro g D e
 simp only at e
 split at e
 ·rename_i k
  subst k
  simp only[Option.some.injEq]at e
  subst e
  exact aq9 hm h a b hf aQ
 ·cases e
end
end RV
namespace RV.Dr
open Go RV
set_option linter.unusedSimpArgs false
set_option maxRecDepth 100000
set_option maxHeartbeats 4000000
def aZ (n:Nat):D:= .ints .i64 (au n)
theorem asl (n:Nat):aZ n= .ints .i64 (au n):=rfl
def ak:=And.intro auT<|And.intro auQ<|And.intro auR<|And.intro auS<|And.intro asl<|And.intro @decide_true @decide_false
def jc:br where
 pre:=fun ds=>∃xs:List Int,ds=[.ints .i64 xs]∧ch xs∧xs.length≤100000
 res:=fun ds=>match ds with
  |[.ints _ xs]=>aZ (val xs)
  |_=> .nilp
theorem JM (Γ:Env) (ds:List D) (h:jc.pre ds):bK Γ acu acv ds fun d=>d=jc.res ds:=by
 obtain⟨xs,rfl,ad1,aH⟩:=h
 simp (maxSteps:=9^9) only[↓al,ak,simprocAttr,acu,acv,jc]
 refine cB (fun s=>∃n:Nat,n≤xs.length∧s.af 0= .d (.ints .i64 xs)∧s.af 3= .d (.int .i64 n)∧xs.take n=au (val xs)) ?_ ?_
 ·refine Rt (fun s=>∃n:Nat,n≤xs.length∧s.af 0= .d (.ints .i64 xs)∧s.af 3= .d (.int .i64 n)∧val (xs.take n)=val xs) (fun s=>match s.af 3 with| .d (.int _ n)=>n.toNat|_=>0) ?_ ?_
  ·refine⟨xs.length,Nat.le_refl _,?_⟩
   simp (maxSteps:=9^9) only[↓al,ak,simprocAttr,List.take_length]
  ·rintro s ⟨n,h1,h2,aq,aK⟩
   by_cases aJ:(n:Int)>0
   ·simp (maxSteps:=9^9) only[↓al,ak,simprocAttr,h2,aq,aJ]
    rw[show ((n:Int) - 1).toNat=n - 1 by omega]
    refine⟨by simp only[aI];omega,by omega,by omega,?_⟩
    split
    ·rename_i h0
     refine⟨by simp only[aI];omega,⟨n - 1,by omega,by omega,?_⟩,by omega⟩
     have:=W5 (xs:=xs) (n:=n - 1) (by omega) (by simpa using h0)
     rw[show n - 1+1=n by omega]at this
     rw[←this];exact aK
    ·rename_i h0
     exact⟨n,h1,rfl,Mt ad1 aK (.inr ⟨h1,by simpa using h0⟩)⟩
   ·simp (maxSteps:=9^9) only[↓al,ak,simprocAttr,h2,aq,aJ]
    exact⟨n,h1,rfl,Mt ad1 aK (.inl (by omega))⟩
 ·rintro s ⟨n,h1,h2,aq,aK⟩
  simp (maxSteps:=9^9) only[↓al,ak,simprocAttr,h2,aq,aZ]
  refine⟨by omega,by omega,by simp only[List.length_take,b1];omega,?_⟩
  rw[List.take_of_length_le (Nat.le_refl _),aK]
def p9:br where
 pre:=fun ds=>∃(xs:List Int) (i:Nat),ds=[.ints .i64 xs,.int .i64 i]
 res:=fun ds=>match ds with
  |[.ints _ xs,.int _ i]=> .int .i64 (xs.getD i.toNat 0)
  |_=> .nilp
theorem JN (Γ:Env) (ds:List D) (h:p9.pre ds):bK Γ ac6 ac7 ds fun d=>d=p9.res ds:=by
 obtain⟨xs,i,rfl⟩:=h
 simp (maxSteps:=9^9) only[↓al,ak,simprocAttr,ac6,ac7,p9]
 split
 ·omega
 ·rw[List.getD_eq_getElem?_getD,List.getElem?_eq_none (by omega)];rfl
def js:br where
 pre:=fun ds=>∃xs aC:List Int,ds=[.ints .i64 xs,.ints .i64 aC]∧ch xs∧ch aC∧xs.length≤10000∧aC.length≤10000
 res:=fun ds=>match ds with
  |[.ints _ xs,.ints _ aC]=>aZ (val xs+val aC)
  |_=> .nilp
theorem JO (Γ:Env) (f156:Γ.fn 156=some jc) (q8:Γ.mt 156=none) (f157:Γ.fn 157=some p9) (Fo:Γ.mt 157=none) (ds:List D) (h:js.pre ds):bK Γ acS acT ds fun d=>d=js.res ds:=by
 obtain⟨xs,aC,rfl,aj,hy,c7,gW⟩:=h
 simp (maxSteps:=9^9) only[↓al,ak,simprocAttr,acS,acT,js]
 refine cB (fun s=>∃out:List Int,s.af 5= .own 5 0 out.length∧s.aA 5=some ⟨false,false,.ints .i64 out⟩∧ch out∧out.length≤20000∧val out=val xs+val aC) ?_ ?_
 ·simp (maxSteps:=9^9) only[↓al,ak,simprocAttr]
  refine eV (fun s=>∃(out:List Int) (c:Nat),s.af 0= .d (.ints .i64 xs)∧s.af 1= .d (.ints .i64 aC)∧s.af 5= .own 5 0 out.length∧s.aA 5=some ⟨false,false,.ints .i64 out⟩∧s.af 6= .d (.int .i64 c)∧s.af 7= .d (.int .i64 out.length)∧
   ch out∧out.length≤max xs.length aC.length+1∧(out.length=max xs.length aC.length+1→c=0)∧c≤1∧val out+16777216^out.length*(c+val (xs.drop out.length)+val (aC.drop out.length))=val xs+val aC)
   (fun s=>match s.af 7,s.af 6 with| .d (.int _ n),.d (.int _ c)=>2*(max xs.length aC.length+1 - n.toNat)+c.toNat|_,_=>0) ?_ ?_
  ·refine⟨[],0,?_⟩
   simp (maxSteps:=2000000) only[↓al,ak,↓reduceIte,reduceCtorEq,Nat.reduceEqDiff,Nat.reduceLeDiff,Nat.reduceSub,Nat.reduceAdd,Int.reduceToNat,Nat.reducePow,Int.reducePow,Int.reduceLE,Int.reduceLT,IntKind.bits]
   exact⟨rfl,rfl,(fun x aj=>by cases aj),by simp[val]⟩
  ·rintro s ⟨out,c,h0,h1,aG,bq,aM,aS,aH,bz,jw,ay,aB⟩
   by_cases pw:(out.length:Int)<xs.length<;>by_cases zh:(out.length:Int)<aC.length<;>by_cases j5:(c:Int)>0<;>
    simp (maxSteps:=2000000) only[↓al,ak,↓reduceIte,reduceCtorEq,Nat.reduceEqDiff,Nat.reduceLeDiff,Nat.reduceSub,Nat.reduceAdd,Int.reduceToNat,Nat.reducePow,Int.reducePow,Int.reduceLE,Int.reduceLT,IntKind.bits,h0,h1,aG,bq,aM,aS,f157,Fo,p9,pw,zh,j5,decide_true,decide_false]
   all_goals
    have gb:=aj.getD out.length
    have jY:=hy.getD out.length
    have s7:∀l:List Int,¬((out.length:Int)<l.length)→l.getD out.length 0=0∧val (l.drop out.length)=0:=fun l h=>by
     rw[List.drop_of_length_le (by omega),List.getD_eq_getElem?_getD,List.getElem?_eq_none (by omega)];exact⟨rfl,rfl⟩
    first
     |(refine⟨out,rfl,rfl,aH,by omega,?_⟩
       have aN:=(s7 xs pw).2
       have aX:=(s7 aC zh).2
       have cc:c=0:=by omega
       rw[aN,aX,cc]at aB
       simpa using aB)
     |(have KQ:0≤xs.getD out.length 0+aC.getD out.length 0+(c:Int):=by omega
       have e5:=XU (out:=out) (r':=val (xs.drop (out.length+1))+val (aC.drop (out.length+1))) KQ aB (by rw[qQ xs out.length,qQ aC out.length];omega)
       have lD:(xs.getD out.length 0+aC.getD out.length 0+(c:Int)).tdiv 16777216=(xs.getD out.length 0+aC.getD out.length 0+(c:Int)) / 16777216:=Int.tdiv_eq_ediv_of_nonneg KQ
       have iL:(xs.getD out.length 0+aC.getD out.length 0+(c:Int)).tmod 16777216=(xs.getD out.length 0+aC.getD out.length 0+(c:Int)) % 16777216:=Int.tmod_eq_emod_of_nonneg KQ
       have aO:((xs.getD out.length 0+aC.getD out.length 0+(c:Int)).tdiv 16777216).toNat≤1:=by rw[lD];omega
       refine⟨⟨xs,out.length,rfl⟩,⟨aC,out.length,rfl⟩,by simp only[aI];omega,by simp only[aI];omega,by omega,by simp only[List.length_append,List.length_cons,List.length_nil,b1];omega,by omega,by rw[lD];simp only[aI];omega,by simp only[aI];omega,
        ⟨out++[(xs.getD out.length 0+aC.getD out.length 0+(c:Int)).tmod 16777216],((xs.getD out.length 0+aC.getD out.length 0+(c:Int)).tdiv 16777216).toNat,rfl,rfl,by rw[lD];omega,by simp,?_,?_,?_,aO,?_⟩,?_⟩
       ·exact aH.snoc (by rw[iL];omega) (by rw[iL];omega)
       ·simp only[List.length_append,List.length_cons,List.length_nil];omega
       ·simp only[List.length_append,List.length_cons,List.length_nil]
        intro hlen
        have aN:=(s7 xs (by omega)).1
        have aX:=(s7 aC (by omega)).1
        rw[aN,aX]at lD⊢
        rw[lD];omega
       ·simpa [Nat.add_assoc]using e5
       ·omega)
 ·rintro s ⟨out,aG,bq,aH,bz,aB⟩
  simp (maxSteps:=9^9) only[↓al,ak,simprocAttr,aG,bq,f156,q8,jc]
  rw[List.take_length]
  exact⟨⟨out,rfl,aH,by omega⟩,by rw[aB]⟩
def uy:br where
 pre:=fun ds=>∃xs aC:List Int,ds=[.ints .i64 xs,.ints .i64 aC]∧xs.length≤100000
 res:=fun ds=>match ds with
  |[.ints _ xs,.ints _ aC]=> .bool (decide (xs=aC))
  |_=> .nilp
theorem ag0 (Γ:Env) (ds:List D) (h:uy.pre ds):bK Γ KN U8 ds fun d=>d=uy.res ds:=by
 obtain⟨xs,aC,rfl,c7⟩:=h
 by_cases aH:(xs.length:Int)=aC.length
 ·have aw:((xs.length:Int) !=aC.length)=false:=by simpa using aH
  simp (maxSteps:=9^9) only[↓al,ak,simprocAttr,KN,U8,uy,aw]
  refine cB (fun s=>xs=aC) ?_ ?_
  ·simp (maxSteps:=9^9) only[↓al,ak,simprocAttr,KN]
   refine eV (fun s=>∃n:Nat,s.af 0= .d (.ints .i64 xs)∧s.af 1= .d (.ints .i64 aC)∧s.af 5= .d (.int .i64 n)∧n≤xs.length∧xs.take n=aC.take n) (fun s=>match s.af 5 with| .d (.int _ n)=>xs.length - n.toNat|_=>0) ?_ ?_
   ·refine⟨0,?_⟩
    simp (maxSteps:=2000000) only[↓al,ak,↓reduceIte,reduceCtorEq,Nat.reduceEqDiff,Nat.reduceLeDiff,Nat.reduceSub,Nat.reduceAdd,Int.reduceToNat,Nat.reducePow,Int.reducePow,Int.reduceLE,Int.reduceLT,IntKind.bits,KN]
    exact⟨rfl,Nat.zero_le _⟩
   ·rintro s ⟨n,h0,h1,aG,aJ,ae⟩
    by_cases ay:(n:Int)<xs.length
    ·simp (maxSteps:=9^9) only[↓al,ak,simprocAttr,h0,h1,aG,ay]
     refine⟨by omega,by omega,by omega,?_⟩
     have hy:n<aC.length:=by omega
     have aj:n<xs.length:=by omega
     have ex:xs.getD n 0=xs[n]:=by rw[List.getD_eq_getElem?_getD,List.getElem?_eq_getElem aj];rfl
     have zi:aC.getD n 0=aC[n]:=by rw[List.getD_eq_getElem?_getD,List.getElem?_eq_getElem hy];rfl
     split
     ·rename_i eB
      have:xs≠aC:=fun e=>by subst e;simp at eB
      simp[this]
     ·rename_i heq
      refine⟨by simp only[aI];omega,⟨n+1,by omega,by omega,?_⟩,by omega⟩
      rw[List.take_add_one,List.take_add_one,ae,List.getElem?_eq_getElem aj,List.getElem?_eq_getElem hy]
      rw[ex,zi]at heq
      have:xs[n]=aC[n]:=by simpa using heq
      rw[this]
    ·simp (maxSteps:=9^9) only[↓al,ak,simprocAttr,h0,h1,aG,ay]
     rw[List.take_of_length_le (by omega),List.take_of_length_le (by omega)]at ae
     exact ae
  ·intro s aE
   simp (maxSteps:=9^9) only[↓al,ak,simprocAttr,aE]
 ·have aw:((xs.length:Int) !=aC.length)=true:=by simpa using aH
  simp (maxSteps:=9^9) only[↓al,ak,simprocAttr,KN,U8,uy,aw]
  have:xs≠aC:=fun e=>aH (by rw[e])
  simp[this]
def fh:br where
 pre:=fun ds=>∃xs aC:List Int,ds=[.ints .i64 xs,.ints .i64 aC]∧(∃a,xs=au a)∧(∃b,aC=au b)∧xs.length≤100000∧aC.length≤100000
 res:=fun ds=>match ds with
  |[.ints _ xs,.ints _ aC]=> .int .i64 (if val xs<val aC then -1 else if val aC<val xs then 1 else 0)
  |_=> .nilp
theorem JP (Γ:Env) (ds:List D) (h:fh.pre ds):bK Γ Fl yE ds fun d=>d=fh.res ds:=by
 obtain⟨xs,aC,rfl,⟨a,a6⟩,⟨b,aw⟩,c7,gW⟩:=h
 have HI:val xs=a:=by rw[a6,bT]
 have HJ:val aC=b:=by rw[aw,bT]
 have aj:ch xs:=a6▸c4 a
 have hy:ch aC:=aw▸c4 b
 by_cases aH:(xs.length:Int)=aC.length
 ·have eB:((xs.length:Int) !=aC.length)=false:=by simpa using aH
  simp (maxSteps:=9^9) only[↓al,ak,simprocAttr,Fl,yE,fh,eB]
  refine cB (fun s=>xs=aC) ?_ ?_
  ·simp (maxSteps:=9^9) only[↓al,ak,simprocAttr,Fl]
   refine⟨by simp only[aI];omega,?_⟩
   refine eV (fun s=>∃n:Nat,s.af 0= .d (.ints .i64 xs)∧s.af 1= .d (.ints .i64 aC)∧s.af 5= .d (.int .i64 ((n:Int) - 1))∧n≤xs.length∧xs.drop n=aC.drop n) (fun s=>match s.af 5 with| .d (.int _ n)=>(n+1).toNat|_=>0) ?_ ?_
   ·refine⟨xs.length,?_⟩
    simp (maxSteps:=9^9) only[↓al,ak,simprocAttr,Fl]
    rw[List.drop_of_length_le (Nat.le_refl _),List.drop_of_length_le (by omega)]
   ·rintro s ⟨n,h0,h1,aG,aJ,ae⟩
    by_cases ay:(n:Int) - 1≥0
    ·by_cases bR:xs.getD ((n:Int) - 1).toNat 0<aC.getD ((n:Int) - 1).toNat 0<;>by_cases bS:xs.getD ((n:Int) - 1).toNat 0>aC.getD ((n:Int) - 1).toNat 0<;>
      simp (maxSteps:=9^9) only[↓al,ak,simprocAttr,h0,h1,aG,ay,bR,bS]
     all_goals
      have kT:((n:Int) - 1).toNat=n - 1:=by omega
      rw[kT]at bR bS
      have aD:xs.drop (n - 1+1)=aC.drop (n - 1+1):=by rw[show n - 1+1=n by omega];exact ae
     ·omega
     ·have:=MI aj hy (i:=n - 1) (by omega) (by omega) aD bR
      refine⟨by omega,by omega,?_⟩
      rw[if_pos this]
     ·have:=MI hy aj (i:=n - 1) (by omega) (by omega) aD.symm bS
      refine⟨by omega,by omega,by omega,by omega,?_⟩
      rw[if_neg (by omega),if_pos this]
     ·have he:xs.getD (n - 1) 0=aC.getD (n - 1) 0:=by omega
      refine⟨by omega,by omega,by omega,by omega,by simp only[aI];omega,⟨n - 1,by omega,by omega,?_⟩,by omega⟩
      have h1:n - 1<xs.length:=by omega
      have h2:n - 1<aC.length:=by omega
      rw[List.drop_eq_getElem_cons h1,List.drop_eq_getElem_cons h2,aD]
      rw[List.getD_eq_getElem?_getD,List.getElem?_eq_getElem h1,List.getD_eq_getElem?_getD,List.getElem?_eq_getElem h2]at he
      simp only[Option.getD_some]at he
      rw[he]
    ·simp (maxSteps:=9^9) only[↓al,ak,simprocAttr,h0,h1,aG,ay]
     rw[show n=0 by omega]at ae
     exact ae
  ·intro s aE
   simp (maxSteps:=9^9) only[↓al,ak,simprocAttr,aE]
   simp
 ·have eB:((xs.length:Int) !=aC.length)=true:=by simpa using aH
  by_cases bl:(xs.length:Int)<aC.length
  ·simp (maxSteps:=9^9) only[↓al,ak,simprocAttr,Fl,yE,fh,eB,bl]
   have:val xs<val aC:=by
    rw[HI,HJ];rw[a6,aw]at bl;exact Il (by omega)
   rw[if_pos this]
  ·simp (maxSteps:=9^9) only[↓al,ak,simprocAttr,Fl,yE,fh,eB,bl]
   have:val aC<val xs:=by
    rw[HI,HJ];rw[a6,aw]at bl aH;exact Il (by omega)
   rw[if_neg (by omega),if_pos this]
def lk:br where
 pre:=fun ds=>∃n:Int,ds=[.int .i64 n]∧aI n
 res:=fun ds=>match ds with
  |[.int _ n]=>aZ n.toNat
  |_=> .nilp
theorem JQ (Γ:Env) (ds:List D) (h:lk.pre ds):bK Γ Ot adz ds fun d=>d=lk.res ds:=by
 obtain⟨N,rfl,cg⟩:=h
 simp (maxSteps:=9^9) only[↓al,ak,simprocAttr,Ot,adz,lk]
 refine cB (fun s=>∃out:List Int,s.af 3= .own 3 0 out.length∧s.aA 3=some ⟨false,false,.ints .i64 out⟩∧out=au N.toNat) ?_ ?_
 ·simp (maxSteps:=9^9) only[↓al,ak,simprocAttr,Ot]
  refine eV (fun s=>∃(out:List Int) (n:Int),s.af 3= .own 3 0 out.length∧s.aA 3=some ⟨false,false,.ints .i64 out⟩∧s.af 0= .d (.int .i64 n)∧n≤N∧aI n∧out.length+(au n.toNat).length≤1000∧out++au n.toNat=au N.toNat) (fun s=>match s.af 0 with| .d (.int _ n)=>n.toNat|_=>0) ?_ ?_
  ·refine⟨[],N,?_⟩
   simp (maxSteps:=9^9) only[↓al,ak,simprocAttr,Ot]
   refine⟨Int.le_refl _,cg,?_⟩
   have:=x7 (n:=N.toNat) (k:=3) (by simp only[aI]at cg;omega)
   omega
  ·rintro s ⟨out,n,aq,a5,h0,aJ,ar,hlen,aB⟩
   by_cases ay:n>0
   ·simp (maxSteps:=2000000) only[↓al,ak,↓reduceIte,reduceCtorEq,Nat.reduceEqDiff,Nat.reduceLeDiff,Nat.reduceSub,Nat.reduceAdd,Int.reduceToNat,Nat.reducePow,Int.reducePow,Int.reduceLE,Int.reduceLT,IntKind.bits,aq,a5,h0,ay]
    have lD:n.tdiv 16777216=n / 16777216:=Int.tdiv_eq_ediv_of_nonneg (by omega)
    have iL:n.tmod 16777216=n % 16777216:=Int.tmod_eq_emod_of_nonneg (by omega)
    have aQ:au n.toNat=n.tmod 16777216::au (n.tdiv 16777216).toNat:=by
     rw[zx (by omega),lD,iL,show n.toNat / 16777216=(n / 16777216).toNat by omega,show ((n.toNat % 16777216:Nat):Int)=n % 16777216 by omega]
    rw[aQ]at aB hlen
    simp only[List.length_cons]at hlen
    refine⟨by omega,by simp only[List.length_append,List.length_cons,List.length_nil,b1];omega,by omega,by rw[lD];simp only[aI]at*;omega,
     ⟨out++[n.tmod 16777216],n.tdiv 16777216,rfl,rfl,rfl,by rw[lD];omega,by rw[lD];simp only[aI]at*;omega,by simp only[List.length_append,List.length_cons,List.length_nil];omega,by rw[←aB];simp⟩,by rw[lD];omega⟩
   ·simp (maxSteps:=9^9) only[↓al,ak,simprocAttr,aq,a5,h0,ay]
    refine⟨out,rfl,rfl,?_⟩
    rw[show n.toNat=0 by omega,hv,List.append_nil]at aB
    exact aB
 ·rintro s ⟨out,aq,a5,aB⟩
  simp (maxSteps:=9^9) only[↓al,ak,simprocAttr,aq,a5]
  rw[List.take_length,aB]
def jV:br where
 pre:=fh.pre
 res:=fun ds=>match ds with
  |[.ints _ xs,.ints _ aC]=>if val xs<val aC then .du [.ints .i64 [],.bool false]else .du [aZ (val xs - val aC),.bool true]
  |_=> .nilp
theorem JR (Γ:Env) (f114:Γ.fn 114=some fh) (JS:Γ.mt 114=none) (f156:Γ.fn 156=some jc) (q8:Γ.mt 156=none) (f157:Γ.fn 157=some p9) (Fo:Γ.mt 157=none) (ds:List D) (h:jV.pre ds):bK Γ JJ Tf ds fun d=>d=jV.res ds:=by
 obtain⟨xs,aC,rfl,⟨a,a6⟩,⟨b,aw⟩,c7,gW⟩:=h
 have aj:ch xs:=a6▸c4 a
 have hy:ch aC:=aw▸c4 b
 have abg:fh.own=false:=rfl
 have abh:fh.pre [.ints .i64 xs,.ints .i64 aC]:=⟨xs,aC,rfl,⟨a,a6⟩,⟨b,aw⟩,c7,gW⟩
 by_cases bl:val xs<val aC
 ·have yE:fh.res [.ints .i64 xs,.ints .i64 aC]= .int .i64 (-1):=by simp only[fh];rw[if_pos bl]
  simp (maxSteps:=9^9) only[↓al,ak,simprocAttr,JJ,Tf,jV,f114,JS,abh,abg,yE,bl]
 ·have yE:∃n:Int,fh.res [.ints .i64 xs,.ints .i64 aC]= .int .i64 n∧¬n<0:=by simp only[fh];rw[if_neg bl];split<;>exact⟨_,rfl,by decide⟩
  obtain⟨azw,yE,avl⟩:=yE
  simp (maxSteps:=9^9) only[↓al,ak,simprocAttr,JJ,Tf,jV,f114,JS,abh,abg,yE,avl,bl]
  refine cB (fun s=>∃out:List Int,s.af 6= .own 6 0 out.length∧s.aA 6=some ⟨false,false,.ints .i64 out⟩∧ch out∧out.length≤100000∧val out=val xs - val aC) ?_ ?_
  ·simp (maxSteps:=9^9) only[↓al,ak,simprocAttr,JJ]
   refine eV (fun s=>∃(out:List Int) (c:Nat),s.af 0= .d (.ints .i64 xs)∧s.af 1= .d (.ints .i64 aC)∧s.af 6= .own 6 0 out.length∧s.aA 6=some ⟨false,false,.ints .i64 out⟩∧s.af 7= .d (.int .i64 c)∧s.af 8= .d (.int .i64 out.length)∧
    ch out∧out.length≤xs.length∧c≤1∧val out+16777216^out.length*val (xs.drop out.length)=(val xs - val aC)+16777216^out.length*(c+val (aC.drop out.length)))
    (fun s=>match s.af 8 with| .d (.int _ n)=>xs.length - n.toNat|_=>0) ?_ ?_
   ·refine⟨[],0,?_⟩
    simp (maxSteps:=2000000) only[↓al,ak,↓reduceIte,reduceCtorEq,Nat.reduceEqDiff,Nat.reduceLeDiff,Nat.reduceSub,Nat.reduceAdd,Int.reduceToNat,Nat.reducePow,Int.reducePow,Int.reduceLE,Int.reduceLT,IntKind.bits,JJ]
    exact⟨rfl,rfl,(fun x aj=>by cases aj),Nat.zero_le _,by simp only[val,Nat.one_mul];omega⟩
   ·rintro s ⟨out,c,h0,h1,aM,aY,aS,bn,aH,bz,ay,aB⟩
    by_cases pw:(out.length:Int)<xs.length
    ·by_cases zh:xs.getD out.length 0 - aC.getD out.length 0 - (c:Int)<0<;>
      simp (maxSteps:=9^9) only[↓al,ak,simprocAttr,h0,h1,aM,aY,aS,bn,f157,Fo,p9,pw,zh]
     all_goals
      have gb:=aj.getD out.length
      have jY:=hy.getD out.length
     ·refine⟨by omega,⟨aC,out.length,rfl⟩,by simp only[aI];omega,by simp only[aI];omega,by simp only[aI];omega,by simp only[List.length_append,List.length_cons,List.length_nil,b1];omega,by simp only[aI];omega,
       ⟨out++[xs.getD out.length 0 - aC.getD out.length 0 - (c:Int)+16777216],1,rfl,rfl,rfl,by simp,aH.snoc (by omega) (by omega),by simp only[List.length_append,List.length_cons,List.length_nil];omega,by omega,?_⟩,by omega⟩
      have:=Xw (c':=1) (d:=xs.getD out.length 0 - aC.getD out.length 0 - (c:Int)+16777216) aj hy (by omega) (by omega) aB
      simpa only[List.length_append,List.length_cons,List.length_nil,Nat.zero_add]using this
     ·refine⟨by omega,⟨aC,out.length,rfl⟩,by simp only[aI];omega,by simp only[aI];omega,by simp only[List.length_append,List.length_cons,List.length_nil,b1];omega,by simp only[aI];omega,
       ⟨out++[xs.getD out.length 0 - aC.getD out.length 0 - (c:Int)],0,rfl,rfl,rfl,by simp,aH.snoc (by omega) (by omega),by simp only[List.length_append,List.length_cons,List.length_nil];omega,by omega,?_⟩,by omega⟩
      have:=Xw (c':=0) (d:=xs.getD out.length 0 - aC.getD out.length 0 - (c:Int)) aj hy (by omega) (by omega) aB
      simpa only[List.length_append,List.length_cons,List.length_nil,Nat.zero_add]using this
    ·simp (maxSteps:=9^9) only[↓al,ak,simprocAttr,h0,h1,aM,aY,aS,bn,f157,Fo,p9,pw]
     have ad:out.length=xs.length:=by omega
     refine⟨out,rfl,rfl,aH,by omega,?_⟩
     rw[List.drop_of_length_le (l:=xs) (by omega)]at aB
     simp only[val,Nat.mul_zero,Nat.add_zero]at aB
     have azf:=k6 aH
     have bp:c+val (aC.drop out.length)=0:=by
      rcases Nat.eq_zero_or_pos (c+val (aC.drop out.length))with h|h
      ·exact h
      ·exfalso
       have:=Nat.mul_le_mul_left (16777216^out.length) h
       omega
     rw[bp]at aB
     simpa using aB
  ·rintro s ⟨out,aM,aY,aH,bz,aB⟩
   simp (maxSteps:=9^9) only[↓al,ak,simprocAttr,aM,aY,f156,q8,jc]
   rw[List.take_length,aB]
   exact⟨⟨out,rfl,aH,bz⟩,rfl⟩
def ma:br where
 pre:=fun ds=>∃xs aC:List Int,ds=[.ints .i64 xs,.ints .i64 aC]∧ch xs∧ch aC∧xs.length≤10000∧aC.length≤10000
 res:=fun ds=>match ds with
  |[.ints _ xs,.ints _ aC]=>aZ (val xs*val aC)
  |_=> .nilp
theorem Oy (Γ:Env) (f156:Γ.fn 156=some jc) (q8:Γ.mt 156=none) (ds:List D) (h:ma.pre ds):bK Γ Ok ack ds fun d=>d=ma.res ds:=by
 obtain⟨xs,aC,rfl,aj,hy,c7,gW⟩:=h
 simp (maxSteps:=9^9) only[↓al,ak,simprocAttr,Ok,ack,ma]
 refine⟨by simp only[aI];omega,by omega,by simp only[b1];omega,?_⟩
 refine cB (fun s=>∃out:List Int,s.af 5= .own 15 0 out.length∧s.aA 15=some ⟨false,false,.ints .i64 out⟩∧ch out∧out.length≤20000∧val out=val xs*val aC) ?_ ?_
 ·simp (maxSteps:=9^9) only[↓al,ak,simprocAttr,Ok]
  refine eV (fun s=>∃(out:List Int) (i:Nat),s.af 0= .d (.ints .i64 xs)∧s.af 1= .d (.ints .i64 aC)∧s.af 5= .own 15 0 out.length∧s.aA 15=some ⟨false,false,.ints .i64 out⟩∧s.af 6= .d (.int .i64 i)∧
   ch out∧out.length=xs.length+aC.length∧i≤xs.length∧val out=val (xs.take i)*val aC∧∀j,i+aC.length≤j→out.getD j 0=0)
   (fun s=>match s.af 6 with| .d (.int _ n)=>xs.length - n.toNat|_=>0) ?_ ?_
  ·refine⟨List.replicate (xs.length+aC.length) 0,0,?_⟩
   simp (maxSteps:=2000000) only[↓al,ak,↓reduceIte,reduceCtorEq,Nat.reduceEqDiff,Nat.reduceLeDiff,Nat.reduceSub,Nat.reduceAdd,Int.reduceToNat,Nat.reducePow,Int.reducePow,Int.reduceLE,Int.reduceLT,IntKind.bits,Ok]
   rw[show ((xs.length:Int)+aC.length).toNat=xs.length+aC.length by omega]
   refine⟨rfl,rfl,rfl,fun x aj=> ?_,Nat.zero_le _,by rw[Ek];simp[val],fun j _=> ?_⟩
   ·rw[List.eq_of_mem_replicate aj];decide
   ·rw[List.getD_eq_getElem?_getD,List.getElem?_replicate];split<;>rfl
  ·rintro s ⟨out,i,h0,h1,aG,kU,aM,aH,hlen,hi,aB,bp⟩
   by_cases pw:(i:Int)<xs.length
   ·simp (maxSteps:=9^9) only[↓al,ak,simprocAttr,h0,h1,aG,kU,aM,pw]
    refine cB (fun s=>∃out:List Int,s.af 0= .d (.ints .i64 xs)∧s.af 1= .d (.ints .i64 aC)∧s.af 5= .own 15 0 out.length∧s.aA 15=some ⟨false,false,.ints .i64 out⟩∧s.af 6= .d (.int .i64 i)∧
     ch out∧out.length=xs.length+aC.length∧val out=val (xs.take (i+1))*val aC∧∀j,i+1+aC.length≤j→out.getD j 0=0) ?_ ?_
    ·simp (maxSteps:=9^9) only[↓al,ak,simprocAttr,h0,h1,aG,kU,aM,pw]
     refine cB (fun s=>∃(da:List Int) (c:Nat),s.af 0= .d (.ints .i64 xs)∧s.af 1= .d (.ints .i64 aC)∧s.af 5= .own 15 0 da.length∧s.aA 15=some ⟨false,false,.ints .i64 da⟩∧s.af 6= .d (.int .i64 i)∧s.af 7= .d (.int .i64 c)∧
      ch da∧da.length=xs.length+aC.length∧c<16777216∧val da+16777216^(i+aC.length)*c=val out+16777216^i*((xs.getD i 0).toNat*val aC)∧∀j,i+aC.length≤j→da.getD j 0=0) ?_ ?_
     ·simp (maxSteps:=9^9) only[↓al,ak,simprocAttr,h0,h1,aG,kU,aM,pw]
      refine eV (fun s=>∃(da:List Int) (c k:Nat),s.af 0= .d (.ints .i64 xs)∧s.af 1= .d (.ints .i64 aC)∧s.af 5= .own 15 0 da.length∧s.aA 15=some ⟨false,false,.ints .i64 da⟩∧s.af 6= .d (.int .i64 i)∧s.af 7= .d (.int .i64 c)∧s.af 8= .d (.int .i64 k)∧
       ch da∧da.length=xs.length+aC.length∧c<16777216∧k≤aC.length∧val da+16777216^(i+k)*c=val out+16777216^i*((xs.getD i 0).toNat*val (aC.take k))∧∀j,i+aC.length≤j→da.getD j 0=0)
       (fun s=>match s.af 8 with| .d (.int _ n)=>aC.length - n.toNat|_=>0) ?_ ?_
      ·refine⟨out,0,0,?_⟩
       simp (maxSteps:=2000000) only[↓al,ak,↓reduceIte,reduceCtorEq,Nat.reduceEqDiff,Nat.reduceLeDiff,Nat.reduceSub,Nat.reduceAdd,Int.reduceToNat,Nat.reducePow,Int.reducePow,Int.reduceLE,Int.reduceLT,IntKind.bits,h0,h1,aG,kU,aM,pw]
       refine⟨rfl,rfl,aH,hlen,by omega,Nat.zero_le _,by simp[val],bp⟩
      ·rintro s ⟨da,c,k,h0,h1,aG,kU,aM,aS,bn,eG,iF,ay,ad,qj,qk⟩
       by_cases zh:(k:Int)<aC.length
       ·have aN:((i:Int)+k).toNat=i+k:=by omega
        have aX:i+k<da.length:=by omega
        have rP:=aj.getD i
        have Vp:=hy.getD k
        have bz:=eG.getD (i+k)
        have zL:xs.getD i 0*aC.getD k 0=(((xs.getD i 0).toNat*(aC.getD k 0).toNat:Nat):Int):=by
         rw[Int.natCast_mul,Int.toNat_of_nonneg rP.1,Int.toNat_of_nonneg Vp.1]
        have z8:=Yx (x:=(xs.getD i 0).toNat) (y:=(aC.getD k 0).toNat) (c:=c) (o:=(da.getD (i+k) 0).toNat) (by omega) (by omega) ay (by omega)
        simp (maxSteps:=2000000) only[↓al,ak,↓reduceIte,reduceCtorEq,Nat.reduceEqDiff,Nat.reduceLeDiff,Nat.reduceSub,Nat.reduceAdd,Int.reduceToNat,Nat.reducePow,Int.reducePow,Int.reduceLE,Int.reduceLT,IntKind.bits,h0,h1,aG,kU,aM,aS,bn,zh,aN,aX,zL]
        generalize jG:da.getD (i+k) 0+(((xs.getD i 0).toNat*(aC.getD k 0).toNat:Nat):Int)+(c:Int)=S
        have e5:=Zd (out:=da) (j:=i+k) (c:=c) (x:=(xs.getD i 0).toNat) (y:=(aC.getD k 0).toNat) eG aX jG.symm
        have GS:0≤S:=by omega
        have avm:S<16777216*16777216:=by omega
        have lD:S.tdiv 16777216=S / 16777216:=Int.tdiv_eq_ediv_of_nonneg GS
        have iL:S.tmod 16777216=S % 16777216:=Int.tmod_eq_emod_of_nonneg GS
        refine⟨by simp only[aI];omega,by omega,by omega,by omega,by omega,by omega,by simp only[aI];omega,by simp only[aI];omega,by simp only[aI];omega,by simp only[aI];omega,by omega,by omega,by omega,by omega,
         by rw[lD];simp only[aI];omega,by simp only[aI];omega,⟨da.set (i+k) (S.tmod 16777216),(S.tdiv 16777216).toNat,k+1,by rw[List.length_set],rfl,by rw[lD];omega,by omega,eG.set _ (by rw[iL];omega) (by rw[iL];omega),by rw[List.length_set];exact iF,by rw[lD];omega,by omega,?_,fun j aF=> ?_⟩,by omega⟩
        ·rw[show i+(k+1)=i+k+1 by omega,e5,Nat.mul_add,←Nat.add_assoc,qj,D5 (by omega),Nat.mul_add,Nat.mul_add,Nat.add_assoc]
         congr 2
         rw[Nat.pow_add,Nat.mul_assoc]
         congr 1
         rw[Nat.mul_left_comm]
        ·rw[x1 (by omega)];exact qk j aF
       ·simp (maxSteps:=9^9) only[↓al,ak,simprocAttr,h0,h1,aG,kU,aM,aS,bn,zh]
        rw[List.take_of_length_le (by omega),show k=aC.length by omega]at qj
        exact⟨da,c,rfl,rfl,rfl,eG,iF,ay,qj,qk⟩
     ·rintro s ⟨da,c,h0,h1,aG,kU,aM,aS,eG,iF,ay,qj,qk⟩
      have aN:((i:Int)+aC.length).toNat=i+aC.length:=by omega
      have aX:i+aC.length<da.length:=by omega
      simp (maxSteps:=9^9) only[↓al,ak,simprocAttr,h0,h1,aG,kU,aM,aS,aN,aX]
      refine⟨by simp only[aI];omega,by omega,by omega,⟨da.set (i+aC.length) c,by rw[List.length_set],rfl,eG.set _ (by omega) (by omega),by rw[List.length_set];exact iF,?_,fun j aF=> ?_⟩⟩
      ·have aE:=Nc aX (c:Int)
       rw[qk _ (Nat.le_refl _)]at aE
       simp only[Int.toNat_zero,Nat.mul_zero,Nat.add_zero,Int.toNat_natCast]at aE
       rw[aE,qj,aB,D5 (by omega),Nat.add_mul,Nat.mul_assoc]
      ·rw[x1 (by omega)];exact qk j (by omega)
    ·rintro s ⟨da,h0,h1,aG,kU,aM,eG,iF,qj,qk⟩
     simp (maxSteps:=9^9) only[↓al,ak,simprocAttr,h0,h1,aG,kU,aM]
     exact⟨by simp only[aI];omega,⟨da,i+1,rfl,rfl,by omega,eG,iF,by omega,qj,qk⟩,by omega⟩
   ·simp (maxSteps:=9^9) only[↓al,ak,simprocAttr,h0,h1,aG,kU,aM,pw]
    rw[List.take_of_length_le (by omega)]at aB
    exact⟨out,rfl,rfl,aH,by omega,aB⟩
 ·rintro s ⟨out,aG,kU,aH,bz,aB⟩
  simp (maxSteps:=9^9) only[↓al,ak,simprocAttr,aG,kU,f156,q8,jc]
  rw[List.take_length,aB]
  exact⟨⟨out,rfl,aH,by omega⟩,rfl⟩
end RV.Dr
namespace RV
def a1 (n:Nat):Nat:=if n=0 then 0 else n.log2+1
theorem ho {n k:Nat} :a1 n≤k↔n<2^k:=by
 unfold a1
 by_cases h:n=0
 ·subst h;simp[Nat.two_pow_pos]
 ·rw[if_neg h,←Nat.log2_lt h];omega
theorem kG (n:Nat):n<2^a1 n:=ho.1 (Nat.le_refl _)
theorem pC:a1 0=0:=rfl
theorem qR {n:Nat} (h:n≠0):0<a1 n:=by unfold a1;rw[if_neg h];omega
theorem AL {n:Nat} (h:n≠0):2^(a1 n - 1)≤n:=by
 rcases Nat.lt_or_ge n (2^(a1 n - 1))with h2|h2
 ·have:=ho.2 h2
  have:=qR h
  omega
 ·exact h2
theorem Mg {n k:Nat} (h0:0<k) (h1:2^(k - 1)≤n) (h2:n<2^k):a1 n=k:=by
 have a:=ho.2 h2
 rcases Nat.lt_or_ge (a1 n) k with h|h
 ·have:=ho.1 (show a1 n≤k - 1 by omega)
  omega
 ·omega
theorem tm {a b:Nat} (h:a≤b):a1 a≤a1 b:=ho.2 (Nat.lt_of_le_of_lt h (kG b))
theorem YB {n:Nat} (h:n≠0):a1 n=a1 (n / 2)+1:=by
 refine Mg (by omega) ?_ ?_
 ·rw[Nat.add_sub_cancel]
  by_cases h2:n / 2=0
  ·rw[h2,pC];simp;omega
  ·have:=AL h2
   have aQ:=qR h2
   rw[show a1 (n / 2)=a1 (n / 2) - 1+1 by omega,Nat.pow_succ]
   omega
 ·have:=kG (n / 2)
  rw[Nat.pow_succ];omega
theorem pE {n:Nat} (h:n≠0) (k:Nat):a1 (n*2^k)=a1 n+k:=by
 have aQ:=qR h
 refine Mg (by omega) ?_ ?_
 ·rw[show a1 n+k - 1=a1 n - 1+k by omega,Nat.pow_add]
  exact Nat.mul_le_mul_right _ (AL h)
 ·rw[Nat.pow_add]
  exact Nat.mul_lt_mul_of_pos_right (kG n) (Nat.two_pow_pos k)
theorem Es (n k:Nat):a1 (n / 2^k)=a1 n - k:=by
 rcases Nat.lt_or_ge k (a1 n)with h|h
 ·have h0:n≠0:=fun e=>by subst e;simp[pC]at h
  refine Mg (by omega) ?_ ?_
  ·rw[Nat.le_div_iff_mul_le (Nat.two_pow_pos k),←Nat.pow_add,show a1 n - k - 1+k=a1 n - 1 by omega]
   exact AL h0
  ·rw[Nat.div_lt_iff_lt_mul (Nat.two_pow_pos k),←Nat.pow_add,show a1 n - k+k=a1 n by omega]
   exact kG n
 ·rw[Nat.div_eq_of_lt (ho.1 h),pC];omega
theorem Bg (k:Nat):(16777216:Nat)^k=2^(24*k):=by rw[Nat.pow_mul]
theorem Zi {xs:List Int} (h:ch xs) (h0:xs≠[]) (aH:xs.getD (xs.length - 1) 0≠0):a1 (val xs)=24*(xs.length - 1)+a1 (xs.getD (xs.length - 1) 0).toNat:=by
 have hlen:0<xs.length:=List.length_pos_iff.2 h0
 have aD:=h.getD (xs.length - 1)
 have aB:=Im xs (xs.length - 1) (by omega)
 rw[qQ,List.drop_of_length_le (by omega)]at aB
 have ae:=k6 (h.take (xs.length - 1))
 rw[List.length_take,Nat.min_eq_left (by omega)]at ae
 simp only[val,Nat.mul_zero,Nat.add_zero]at aB
 have eB:(xs.getD (xs.length - 1) 0).toNat≠0:=by omega
 have aw:=qR eB
 have h1:=AL eB
 have h2:=kG (xs.getD (xs.length - 1) 0).toNat
 generalize (xs.getD (xs.length - 1) 0).toNat=t at*
 rw[Bg]at*
 refine Mg (by omega) ?_ ?_
 ·rw[show 24*(xs.length - 1)+a1 t - 1=24*(xs.length - 1)+(a1 t - 1)by omega,Nat.pow_add,aB]
  exact Nat.le_trans (Nat.mul_le_mul_left _ h1) (Nat.le_add_left _ _)
 ·rw[Nat.pow_add,aB]
  have:2^(24*(xs.length - 1))*(t+1)≤2^(24*(xs.length - 1))*2^a1 t:=Nat.mul_le_mul_left _ h2
  rw[Nat.mul_add]at this
  omega
theorem Qm {n:Nat} (h:n≠0):(au n).getD ((au n).length - 1) 0≠0:=by
 have aQ:=x2 h
 rw[List.getD_eq_getElem?_getD,List.getElem?_eq_getElem (by omega)]
 refine alb (n:=n) _ ?_
 rw[List.getLast?_eq_getElem?,List.getElem?_eq_getElem (by omega)]
 rfl
theorem Zj {n:Nat} (h:n≠0):au n≠[]:=fun e=>h (Yv e)
theorem YC {a b:Nat} (h:au a=au b):a=b:=by rw[←bT a,h,bT]
theorem x3 (n:Nat):a1 n≤24*(au n).length:=by
 rw[ho,←Bg];exact Ru n
theorem Cr (a b:Nat):a1 (a+b)≤max (a1 a) (a1 b)+1:=by
 rw[ho,Nat.pow_succ]
 have h1:=kG a
 have h2:=kG b
 have aq:2^a1 a≤2^max (a1 a) (a1 b):=Nat.pow_le_pow_right (by decide) (Nat.le_max_left _ _)
 have aK:2^a1 b≤2^max (a1 a) (a1 b):=Nat.pow_le_pow_right (by decide) (Nat.le_max_right _ _)
 omega
theorem Cs (a b:Nat):a1 (a*b)≤a1 a+a1 b:=by
 rw[ho,Nat.pow_add]
 have h1:=kG a
 have h2:=kG b
 exact Nat.mul_lt_mul_of_lt_of_lt h1 h2
theorem ako {a b:Nat} (a6:a≠0) (aw:b≠0):a1 a+a1 b≤a1 (a*b)+1:=by
 have h1:=AL a6
 have h2:=AL aw
 have hm:=Nat.mul_le_mul h1 h2
 rw[←Nat.pow_add]at hm
 have pa:=qR a6
 have px:=qR aw
 rcases Nat.lt_or_ge (a1 (a*b)) (a1 a+a1 b - 1)with h|h
 ·have:=ho.1 (Nat.le_of_lt_succ (show a1 (a*b)<(a1 a - 1+(a1 b - 1))+1 by omega))
  omega
 ·omega
end RV
namespace RV
theorem Zk {p q:Nat} (aQ:0<p) (sP:p*q=16777216) (x v:Nat):(x+16777216*v) / p=x / p+v % p*q+16777216*(v / p):=by
 rw[←sP,Nat.mul_assoc,Nat.add_mul_div_left _ _ aQ,Nat.add_assoc]
 congr 1
 conv=>lhs;rw[←Nat.mod_add_div v p]
 rw[Nat.mul_add,Nat.mul_comm q (v % p),Nat.mul_assoc,←Nat.mul_assoc q p,Nat.mul_comm q p,Nat.mul_assoc]
theorem Zl {p q:Nat} (aQ:0<p) (sP:p*q=16777216) {x:Nat} (aj:x<16777216) (y:Nat):x / p+y % p*q<16777216:=by
 have h1:x / p<q:=by rw[Nat.div_lt_iff_lt_mul aQ,Nat.mul_comm,sP];exact aj
 have h2:y % p<p:=Nat.mod_lt _ aQ
 have aq:(y % p+1)*q≤p*q:=Nat.mul_le_mul_right _ h2
 rw[Nat.add_mul]at aq
 omega
theorem H6 {xs:List Int} (h:ch xs) (k:Nat):val (xs.drop k)=val xs / 16777216^k:=by
 rcases Nat.lt_or_ge k xs.length with ad|ad
 ·have h1:=Im xs k (by omega)
  have h2:=k6 (h.take k)
  rw[List.length_take,Nat.min_eq_left (by omega)]at h2
  rw[h1,Nat.add_mul_div_left _ _ (Nat.pow_pos (by decide)),Nat.div_eq_of_lt h2,Nat.zero_add]
 ·rw[List.drop_of_length_le ad,Nat.div_eq_of_lt (Nat.lt_of_lt_of_le (k6 h) (Nat.pow_le_pow_right (by decide) ad))]
  rfl
theorem Xy {xs:List Int} {p q:Nat} (sP:p*q=16777216):∀(i:Nat),val (xs.drop i) % p=(xs.getD i 0).toNat % p:=fun i=>by
 rw[qQ,←sP,Nat.mul_assoc,Nat.add_mul_mod_self_left]
theorem Xz {k:Int} (ad:0≤k):(16777216:Nat)^(k / 24).toNat*2^(k % 24).toNat=2^k.toNat:=by
 rw[Bg,←Nat.pow_add];congr 1;omega
theorem YD {k:Int} (ad:0≤k):∃q:Nat,2^(k % 24).toNat*q=16777216∧2≤q:=⟨2^(24 - (k % 24).toNat),by rw[←Nat.pow_add,show (k % 24).toNat+(24 - (k % 24).toNat)=24 by omega],by
 have:2^1≤2^(24 - (k % 24).toNat):=Nat.pow_le_pow_right (by decide) (by omega)
 simpa using this⟩
theorem Zm {out:List Int} {c p q x v i:Nat} {s:Int} (aE:s=((x*p+c:Nat):Int)) (hlen:out.length=q+i) (aB:val out+16777216^(q+i)*c=16777216^q*(p*v)):
 val (out++[s.tmod 16777216])+16777216^(q+i+1)*(s.tdiv 16777216).toNat=16777216^q*(p*(v+16777216^i*x)):=by
 have h0:0≤s:=by omega
 have:=XU (out:=out) (T:=val out+16777216^out.length*s.toNat) (r:=s.toNat) (r':=0) h0 rfl (by omega)
 simp only[hlen,Nat.add_zero]at this
 rw[this,show s.toNat=x*p+c by omega,Nat.mul_add,Nat.add_left_comm,←Nat.add_assoc,Nat.add_assoc,aB]
 rw[Nat.mul_add,Nat.mul_add,Nat.pow_add]
 have:16777216^q*16777216^i*(x*p)=16777216^q*(p*(16777216^i*x)):=by
  simp only[Nat.mul_assoc,Nat.mul_comm,Nat.mul_left_comm]
 rw[this,Nat.add_comm]
end RV
namespace RV
theorem H2 (xs:List Int) (i:Nat):val (xs.take (i+1))=val (xs.take i)+16777216^i*(xs.getD i 0).toNat:=by
 rcases Nat.lt_or_ge i xs.length with h|h
 ·exact D5 h
 ·rw[List.take_of_length_le (by omega),List.take_of_length_le h,List.getD_eq_getElem?_getD,List.getElem?_eq_none h];simp
theorem Mb {out:List Int} {i:Nat} (hi:i<out.length) (v:Int):val ((out.set i v).take (i+1))=val (out.take i)+16777216^i*v.toNat:=by
 rw[H2,List.take_set_of_le (Nat.le_refl i),List.getD_eq_getElem?_getD,List.getElem?_set_self hi]
 rfl
theorem QT {out xs aC:List Int} {i:Nat} {c t s:Int} (hi:i<out.length) (aj:ch xs) (hy:ch aC) (aE:s=xs.getD i 0+t*aC.getD i 0+c)
 (aB:(val (out.take i):Int)+16777216^i*c=val (xs.take i)+t*val (aC.take i)):
 (val ((out.set i (s % 16777216)).take (i+1)):Int)+16777216^(i+1)*(s / 16777216)=val (xs.take (i+1))+t*val (aC.take (i+1)):=by
 rw[Mb hi,H2,H2]
 have h1:=aj.getD i
 have h2:=hy.getD i
 simp only[Int.natCast_add,Int.natCast_mul,Int.natCast_pow,Int.toNat_of_nonneg h1.1,Int.toNat_of_nonneg h2.1,Int.toNat_of_nonneg (show 0≤s % 16777216 by omega)]
 have e:(s % 16777216)+16777216*(s / 16777216)=s:=by omega
 show (val (out.take i):Int)+16777216^i*(s % 16777216)+16777216^(i+1)*(s / 16777216)=(val (xs.take i):Int)+16777216^i*xs.getD i 0+t*((val (aC.take i):Int)+16777216^i*aC.getD i 0)
 rw[Int.pow_succ,Int.mul_assoc,Int.add_assoc,←Int.mul_add,e,aE,Int.mul_add,Int.mul_add,Int.mul_add]
 have aX:t*((16777216:Int)^i*aC.getD i 0)=16777216^i*(t*aC.getD i 0):=Int.mul_left_comm ..
 rw[aX]
 generalize (16777216:Int)^i*(t*aC.getD i 0)=A at*
 generalize (16777216:Int)^i*xs.getD i 0=B at*
 omega
theorem Rc {n:Nat} {v T:Nat} {c:Int} (aB:(v:Int)+16777216^n*c=T) (h1:v<16777216^n) (h2:T<16777216^n) (ay:c=0∨c=1∨c= -1):c=0∧v=T:=by
 have e:((16777216^n:Nat):Int)=16777216^n:=by rw[Int.natCast_pow];rfl
 rcases ay with rfl|rfl|rfl
 ·exact⟨rfl,by omega⟩
 ·exfalso;rw[←e]at aB;omega
 ·exfalso;rw[←e]at aB;omega
end RV
namespace RV
theorem amf {out:List Int} {j c x y:Nat} {s:Int} (aH:ch out) (aF:j<out.length) (aE:s=out.getD j 0+(x*y:Nat)+c):
 val (out.set j (s % 16777216))+16777216^(j+1)*(s / 16777216).toNat=val out+16777216^j*(c+x*y):=by
 have bz:=aH.getD j
 have h:=Zd aH aF aE
 rwa [Int.tmod_eq_emod_of_nonneg (by omega),Int.tdiv_eq_ediv_of_nonneg (by omega)]at h
end RV
namespace RV
theorem amg {out:List Int} {c p x Q j v:Nat} (hi:Q+j<out.length) (aB:val (out.take (Q+j))+16777216^(Q+j)*c=16777216^Q*(p*v)):
 val ((out.set (Q+j) ((((x*p:Nat):Int)+c) % 16777216)).take (Q+j+1))+16777216^(Q+j+1)*((((x*p:Nat):Int)+c) / 16777216).toNat=16777216^Q*(p*(v+16777216^j*x)):=by
 have aH:(out.take (Q+j)).length=Q+j:=by rw[List.length_take];omega
 have h:=Zm (out:=out.take (Q+j)) (x:=x) (s:=((x*p:Nat):Int)+c) (by omega) aH aB
 rw[Mb hi]
 rw[AY,aH,Int.tmod_eq_emod_of_nonneg (by omega),Int.tdiv_eq_ediv_of_nonneg (by omega)]at h
 exact h
theorem carry_zero {v P c T:Nat} (h:v+P*c=T) (cy:T<P):c=0∧v=T:=by
 rcases Nat.eq_zero_or_pos c with h0|h0
 ·subst h0;exact⟨rfl,by simpa using h⟩
 ·exfalso
  have:P*1≤P*c:=Nat.mul_le_mul_left _ h0
  omega
theorem anJ {xs:List Int} (h:ch xs) {p Q:Nat} (aQ:p<16777216):16777216^Q*p*val xs<16777216^(Q+xs.length+1):=by
 have h1:=k6 h
 rw[Nat.pow_succ,Nat.pow_add,Nat.mul_assoc,Nat.mul_assoc]
 refine Nat.mul_lt_mul_of_pos_left ?_ (Nat.pow_pos (by decide))
 rw[Nat.mul_comm p]
 exact Nat.mul_lt_mul_of_lt_of_lt h1 aQ
def fA:Nat→Nat→List Int
 |0,_=>[]
 |n+1,v=>((v % 16777216:Nat):Int)::fA n (v / 16777216)
theorem fx:∀(n v:Nat),(fA n v).length=n
 |0,_=>rfl
 |n+1,v=>by rw[fA,List.length_cons,fx n]
theorem qS:∀(n v:Nat),ch (fA n v)
 |0,_=>fun x aj=>by cases aj
 |n+1,v=>fun x aj=>by
  rw[fA]at aj
  rcases List.mem_cons.1 aj with rfl|aj
  ·omega
  ·exact qS n _ x aj
theorem Rv:∀{xs:List Int},ch xs→fA xs.length (val xs)=xs
 |[],_=>rfl
 |x::xs,h=>by
  have dT:=h.head
  rw[List.length_cons,fA,val,show (x.toNat+16777216*val xs) / 16777216=val xs by omega,Rv h.tail,show (((x.toNat+16777216*val xs) % 16777216:Nat):Int)=x by omega]
theorem Et:∀{n v:Nat},v<16777216^n→val (fA n v)=v
 |0,v,h=>by simp at h;subst h;rfl
 |n+1,v,h=>by
  rw[Nat.pow_succ]at h
  rw[fA,val,Et (by rw[Nat.div_lt_iff_lt_mul (by decide)];exact h)]
  omega
theorem Z5 {xs:List Int} {n v:Nat} (h:ch xs) (aH:xs.length=n) (aB:val xs=v):xs=fA n v:=by
 rw[←aH,←aB,Rv h]
theorem amh (n:Nat):fA n 0=List.replicate n 0:=by
 refine(Z5 (fun x aj=> ?_) (List.length_replicate ..) (Ek n)).symm
 rw[List.eq_of_mem_replicate aj];decide
end RV
namespace RV
theorem apg {out:List Int} {c p i T:Nat} (hi:i<out.length) (x:Nat) (aB:val (out.take i)+16777216^i*c=T):
 val ((out.set i ((((x*p:Nat):Int)+c) % 16777216)).take (i+1))+16777216^(i+1)*((((x*p:Nat):Int)+c) / 16777216).toNat=T+16777216^i*(x*p):=by
 rw[Mb hi,Nat.pow_succ,Nat.mul_assoc,Nat.add_assoc,←Nat.mul_add]
 have e:((((x*p:Nat):Int)+c) % 16777216).toNat+16777216*((((x*p:Nat):Int)+c) / 16777216).toNat=c+x*p:=by omega
 rw[e,Nat.mul_add,←Nat.add_assoc,aB]
def a7 (n:Nat):Nat:=if h:n=0 then 0 else if (2*a7 (n / 4)+1)*(2*a7 (n / 4)+1)≤n then 2*a7 (n / 4)+1 else 2*a7 (n / 4)
termination_by n
decreasing_by all_goals exact Nat.div_lt_self (Nat.pos_of_ne_zero h) (by decide)
theorem M4:a7 0=0:=by unfold a7;rw[dif_pos rfl]
theorem Zn (N d:Nat) (aD:d<4):a7 (4*N+d)=if (2*a7 N+1)*(2*a7 N+1)≤4*N+d then 2*a7 N+1 else 2*a7 N:=by
 by_cases h:4*N+d=0
 ·have:N=0:=by omega
  subst this
  rw[h,M4];rfl
 ·conv=>lhs;unfold a7
  rw[dif_neg h,show (4*N+d) / 4=N by omega]
theorem oL (n:Nat):a7 n*a7 n≤n∧n<(a7 n+1)*(a7 n+1):=by
 induction n using Nat.strongRecOn with
 |_ n cJ=>
  by_cases h:n=0
  ·subst h;rw[M4];decide
  ·obtain⟨h1,h2⟩:=cJ (n / 4) (by omega)
   have e:=Zn (n / 4) (n % 4) (by omega)
   rw[show 4*(n / 4)+n % 4=n by omega]at e
   rw[e]
   generalize a7 (n / 4)=r at*
   have bh:2*r*(2*r)=4*(r*r):=by
    rw[Nat.mul_mul_mul_comm]
   have bB:(r+1)*(r+1)=r*r+2*r+1:=by
    rw[Nat.add_mul,Nat.mul_add];omega
   have c2:(2*r+1)*(2*r+1)=4*(r*r)+4*r+1:=by
    rw[Nat.add_mul,Nat.mul_add,bh];omega
   have hF:(2*r+1+1)*(2*r+1+1)=4*(r*r)+8*r+4:=by
    rw[show 2*r+1+1=2*(r+1)by omega,Nat.mul_mul_mul_comm,bB];omega
   split
   ·rename_i ay
    exact⟨ay,by omega⟩
   ·rename_i ay
    exact⟨by omega,by omega⟩
theorem alf {n r:Nat} (h1:r*r≤n) (h2:n<(r+1)*(r+1)):a7 n=r:=by
 obtain⟨aq,aK⟩:=oL n
 rcases Nat.lt_trichotomy (a7 n) r with h|h|h
 ·have:=Nat.mul_le_mul (show a7 n+1≤r from h) (show a7 n+1≤r from h)
  omega
 ·exact h
 ·have:=Nat.mul_le_mul (show r+1≤a7 n from h) (show r+1≤a7 n from h)
  omega
theorem anK (N d:Nat) (aD:d<4):
 (4*a7 N+1≤4*(N - a7 N*a7 N)+d↔a7 (4*N+d)=2*a7 N+1)∧(¬4*a7 N+1≤4*(N - a7 N*a7 N)+d↔a7 (4*N+d)=2*a7 N)∧
 4*N+d - a7 (4*N+d)*a7 (4*N+d)=if 4*a7 N+1≤4*(N - a7 N*a7 N)+d then 4*(N - a7 N*a7 N)+d - (4*a7 N+1)else 4*(N - a7 N*a7 N)+d:=by
 obtain⟨h1,h2⟩:=oL N
 have e:=Zn N d aD
 generalize a7 N=r at*
 have bh:2*r*(2*r)=4*(r*r):=by rw[Nat.mul_mul_mul_comm]
 have c2:(2*r+1)*(2*r+1)=4*(r*r)+4*r+1:=by
  rw[Nat.add_mul,Nat.mul_add,bh];omega
 by_cases c:(2*r+1)*(2*r+1)≤4*N+d
 ·rw[if_pos c]at e
  rw[e,if_pos (by omega),c2]
  refine⟨⟨fun _=>rfl,fun _=>by omega⟩,⟨fun h=>absurd (by omega) h,fun h=>by omega⟩,by omega⟩
 ·rw[if_neg c]at e
  rw[e,if_neg (by omega),bh]
  refine⟨⟨fun h=>by omega,fun h=>by omega⟩,⟨fun _=>rfl,fun _=>by omega⟩,by omega⟩
end RV
namespace RV
theorem XX (a q:Nat):(au a).getD q 0=((a / 16777216^q % 16777216:Nat):Int):=by
 have h1:=H6 (c4 a) q
 have h2:=qQ (au a) q
 have aq:=(c4 a).getD q
 rw[bT]at h1
 omega
theorem anL (a u:Nat):a / 16777216^(2*u / 24) % 16777216 / 2^(2*u % 24) % 4=a / 4^u % 4:=by
 have e:(4:Nat)^u=16777216^(2*u / 24)*2^(2*u % 24):=by
  rw[Bg,←Nat.pow_add,show (4:Nat)=2^2 from rfl,←Nat.pow_mul]
  congr 1;omega
 rw[e,←Nat.div_div_eq_div_mul]
 generalize a / 16777216^(2*u / 24)=b
 obtain⟨r,ar⟩:∃r,r=2*u % 24:=⟨_,rfl⟩
 have lv:r+2≤24:=by omega
 rw[←ar]
 have k:16777216=2^r*(4*2^(22 - r)):=by
  rw[show (4:Nat)=2^2 from rfl,←Nat.pow_add,←Nat.pow_add,show r+(2+(22 - r))=24 by omega]
 conv=>lhs;rw[k,Nat.mod_mul_right_div_self,Nat.mod_mul_right_mod]
theorem ami (a u:Nat):a / 4^u=4*(a / 4^(u+1))+a / 4^u % 4:=by
 rw[Nat.pow_succ,←Nat.div_div_eq_div_mul];omega
theorem aaB {n b:Nat} (h:n<b*b):a7 n<b:=by
 have h1:=(oL n).1
 rcases Nat.lt_or_ge (a7 n) b with h2|h2
 ·exact h2
 ·have:=Nat.mul_le_mul h2 h2;omega
theorem anM (n:Nat):n - a7 n*a7 n≤2*a7 n:=by
 have:=(oL n).2
 rw[Nat.add_mul,Nat.mul_add]at this
 omega
end RV
namespace RV
structure a8 where
 neg:Bool
 m:Nat
 e:Int
deriving DecidableEq
def b2 (n:Nat):Nat:=if h:n=0 then 0 else if n % 2=1 then 0 else b2 (n / 2)+1
termination_by n
decreasing_by exact Nat.div_lt_self (Nat.pos_of_ne_zero h) (by decide)
theorem Nz {n:Nat} (h:n % 2=1):b2 n=0:=by
 unfold b2;rw[dif_neg (by omega),if_pos h]
theorem aph {n:Nat} (h0:n≠0) (h:n % 2=0):b2 n=b2 (n / 2)+1:=by
 conv=>lhs;unfold b2
 rw[dif_neg h0,if_neg (by omega)]
theorem jN {n:Nat} (h0:n≠0):n / 2^b2 n*2^b2 n=n∧n / 2^b2 n % 2=1:=by
 induction n using Nat.strongRecOn with
 |_ n cJ=>
  by_cases h:n % 2=1
  ·rw[Nz h];simpa using h
  ·have:=cJ (n / 2) (by omega) (by omega)
   rw[aph h0 (by omega),Nat.pow_succ,Nat.mul_comm (2^b2 (n / 2)) 2,←Nat.div_div_eq_div_mul,Nat.mul_comm 2,←Nat.mul_assoc,this.1]
   exact⟨by omega,this.2⟩
theorem Rw {n k:Nat} (h0:n≠0) (h:n % 2^k=0):k≤b2 n:=by
 have h1:=jN h0
 rcases Nat.lt_or_ge (b2 n) k with aH|aH
 ·exfalso
  obtain⟨q,aO⟩:=Nat.dvd_of_mod_eq_zero h
  have e:n / 2^b2 n*2^b2 n=(2^(k - b2 n - 1)*q*2)*2^b2 n:=by
   rw[h1.1]
   conv=>lhs;rw[aO,show k=(k - b2 n - 1)+1+b2 n by omega,Nat.pow_add,Nat.pow_succ]
   simp only[Nat.mul_comm,Nat.mul_assoc,Nat.mul_left_comm]
  have:=Nat.eq_of_mul_eq_mul_right (Nat.two_pow_pos _) e
  have h2:=h1.2
  rw[this]at h2
  omega
 ·exact aH
theorem W0 {a b i j:Nat} (a6:a % 2=1) (aw:b % 2=1) (h:a*2^i=b*2^j):a=b∧i=j:=by
 have key:∀{a b i j:Nat},a % 2=1→a*2^i=b*2^j→j≤i:=fun {a b i j} a6 h=>by
  rcases Nat.lt_or_ge i j with aH|aH
  ·exfalso
   have e:a*2^i=(b*2^(j - i - 1)*2)*2^i:=by
    rw[h];conv=>lhs;rw[show j=(j - i - 1)+1+i by omega,Nat.pow_add,Nat.pow_succ]
    simp only[Nat.mul_assoc]
   have:=Nat.eq_of_mul_eq_mul_right (Nat.two_pow_pos _) e
   omega
  ·exact aH
 have e:i=j:=Nat.le_antisymm (key aw h.symm) (key a6 h)
 subst e
 exact⟨Nat.eq_of_mul_eq_mul_right (Nat.two_pow_pos _) h,rfl⟩
def mk (neg:Bool) (m:Nat) (e:Int):a8:=if m=0 then ⟨false,0,0⟩else ⟨neg,m / 2^b2 m,e+b2 m⟩
def a8.ok (d:a8):Prop:=(d.m=0→d.neg=false∧d.e=0)∧(d.m≠0→d.m % 2=1)
def eQ (d:a8):a8:=⟨!d.neg && decide (d.m≠0),d.m,d.e⟩
def gi (d:a8) (k:Int):a8:=mk d.neg d.m (d.e+k)
def dW (a b:a8):a8:=
 if a.m=0 then b else if b.m=0 then a else
 if a.neg=b.neg then mk a.neg (a.m*2^(a.e - min a.e b.e).toNat+b.m*2^(b.e - min a.e b.e).toNat) (min a.e b.e)
 else if b.m*2^(b.e - min a.e b.e).toNat≤a.m*2^(a.e - min a.e b.e).toNat then mk a.neg (a.m*2^(a.e - min a.e b.e).toNat - b.m*2^(b.e - min a.e b.e).toNat) (min a.e b.e)
 else mk b.neg (b.m*2^(b.e - min a.e b.e).toNat - a.m*2^(a.e - min a.e b.e).toNat) (min a.e b.e)
def cV (a b:a8):a8:=mk (a.neg !=b.neg) (a.m*b.m) (a.e+b.e)
def ik (d:a8):Int:=if d.m=0 then 0 else if d.neg then -1 else 1
def e4 (a b:a8):Int:=ik (dW a (eQ b))
def gM (d:a8) (n:Int) (up:Bool):a8:=
 if a1 d.m - n≤0 then d else mk d.neg (d.m / 2^(a1 d.m - n).toNat+(if up=d.neg then 0 else 1)) (d.e+(a1 d.m - n))
theorem oV (neg:Bool) (m:Nat) (e:Int):(mk neg m e).ok:=by
 unfold mk a8.ok
 split
 ·simp
 ·rename_i h
  have:=jN h
  exact⟨fun e=>by simp only at e;omega,fun _=>this.2⟩
theorem api {d:a8} (h:d.ok):mk d.neg d.m d.e=d:=by
 unfold mk
 split
 ·rename_i h0
  obtain⟨a,b⟩:=h.1 h0
  cases d;simp_all
 ·rename_i h0
  have:=h.2 h0
  rw[Nz this]
  cases d;simp
theorem Mh {d:a8} (h:d.ok):gi d 0=d:=by
 unfold gi;rw[Int.add_zero,api h]
theorem Zo {d:a8} (h:d.ok):mk (!d.neg) d.m d.e=eQ d:=by
 unfold mk eQ
 split
 ·rename_i h0
  obtain⟨a,b⟩:=h.1 h0
  cases d;simp_all
 ·rename_i h0
  rw[Nz (h.2 h0)]
  simp[h0]
theorem Eu {d:a8} (h:d.ok):(eQ d).ok:=by rw[←Zo h];exact oV ..
theorem Nh {a b:a8} (a6:a.ok) (aw:b.ok):(dW a b).ok:=by
 unfold dW
 repeat' split
 all_goals first|assumption|exact oV ..
def dQ (neg:Bool) (m:Nat):Int:=if neg then -(m:Int)else m
def a8.V (E:Int) (d:a8):Int:=dQ d.neg d.m*2^(d.e - E).toNat
def a8.win (lo hi:Int) (d:a8):Prop:=d.ok∧(d.m≠0→lo≤d.e∧d.e+a1 d.m≤hi)
theorem arb (a b:Bool) (m n:Nat):dQ a m*dQ b n=dQ (a !=b) (m*n):=by
 cases a<;>cases b<;>simp[dQ,Int.neg_mul,Int.mul_neg]
theorem Zp (a:Bool) (m k:Nat):dQ a (m*2^k)=dQ a m*2^k:=by
 cases a<;>simp[dQ,Int.neg_mul]
theorem Io (a:Bool) (m:Nat):(dQ a m).natAbs=m:=by cases a<;>simp[dQ]
theorem su {E:Int} (neg:Bool) (m:Nat) {e:Int} (h:E≤e):(mk neg m e).V E=dQ neg m*2^(e - E).toNat:=by
 unfold mk
 split
 ·rename_i h0;subst h0;cases neg<;>simp[a8.V,dQ]
 ·rename_i h0
  have:=(jN h0).1
  unfold a8.V
  rw[show (e+(b2 m:Int) - E).toNat=b2 m+(e - E).toNat by omega,Int.pow_add,←Int.mul_assoc,←Zp,this]
theorem lZ {E:Int} {d:a8} (h:d.m=0):d.V E=0:=by unfold a8.V;rw[h];cases d.neg<;>simp[dQ]
theorem ad2 {E:Int} {d:a8} (h:d.m≠0):d.V E≠0:=by
 intro e
 unfold a8.V at e
 have:=congrArg Int.natAbs e
 rw[Int.natAbs_mul,Io]at this
 rcases Nat.mul_eq_zero.1 this with h1|h1
 ·exact h h1
 ·have h2:((2:Int)^(d.e - E).toNat).natAbs=2^(d.e - E).toNat:=by rw[Int.natAbs_pow];rfl
  rw[h2]at h1
  exact absurd h1 (Nat.ne_of_gt (Nat.two_pow_pos _))
theorem asm {E:Int} {a b:a8} (a6:a.ok) (aw:b.ok) (b4:a.m≠0→E≤a.e) (dJ:b.m≠0→E≤b.e) (h:a.V E=b.V E):a=b:=by
 by_cases h0:a.m=0
 ·have:b.m=0:=Decidable.byContradiction fun h1=>ad2 h1 (by rw[←h,lZ h0])
  obtain⟨x,y⟩:=a6.1 h0
  obtain⟨z,u⟩:=aw.1 this
  cases a;cases b;simp_all
 ·by_cases h1:b.m=0
  ·exact absurd (by rw[h,lZ h1]) (ad2 (E:=E) h0)
  ·have Wr:=a6.2 h0
   have cu:=aw.2 h1
   have b4:=b4 h0
   have dJ:=dJ h1
   have aJ:=congrArg Int.natAbs h
   unfold a8.V at aJ h
   rw[Int.natAbs_mul,Int.natAbs_mul,Io,Io,Int.natAbs_pow,Int.natAbs_pow]at aJ
   have:=W0 Wr cu aJ
   have he:a.e=b.e:=by omega
   rw[←this.2,←this.1]at h
   have aQ:(0:Int)<2^(a.e - E).toNat:=Int.pow_pos (by decide)
   have:=Int.eq_of_mul_eq_mul_right (Int.ne_of_gt aQ) h
   have atb:a.neg=b.neg:=by
    cases hG:a.neg<;>cases ayl:b.neg<;>simp[dQ,hG,ayl]at this<;>first|rfl|omega
   cases a;cases b;simp_all
theorem win.lo {lo hi:Int} {d:a8} (h:d.win lo hi) {E:Int} (l:E≤lo):d.m≠0→E≤d.e:=fun h0=>by have:=(h.2 h0).1;omega
theorem win.up {lo hi lo' hi':Int} {d:a8} (h:d.win lo hi) (l:lo'≤lo) (k:hi≤hi'):d.win lo' hi':=⟨h.1,fun h0=>by have:=h.2 h0;omega⟩
theorem aaC {E:Int} {d:a8} :ik d=(d.V E).sign:=by
 unfold ik
 split
 ·rename_i h0;rw[lZ h0];rfl
 ·rename_i h0
  unfold a8.V
  have aQ:(0:Int)<2^(d.e - E).toNat:=Int.pow_pos (by decide)
  rw[Int.sign_mul,Int.sign_eq_one_of_pos aQ,Int.mul_one]
  unfold dQ
  split
  ·rw[Int.sign_eq_neg_one_of_neg];omega
  ·rw[Int.sign_eq_one_of_pos];omega
theorem aaD {E:Int} (d:a8):(eQ d).V E= - d.V E:=by
 by_cases h0:d.m=0
 ·rw[lZ h0,lZ (by exact h0)];rfl
 ·unfold a8.V eQ
  simp only[h0,ne_eq,not_false_eq_true,decide_true,Bool.and_true]
  rw[←Int.neg_mul]
  congr 1
  unfold dQ
  cases d.neg<;>simp
theorem arc {a:Bool} (x y:Nat):dQ a (x+y)=dQ a x+dQ a y:=by cases a<;>simp[dQ];omega
theorem aaE {a b:Bool} (h:a≠b) {x y:Nat} (l:y≤x):dQ a (x - y)=dQ a x+dQ b y:=by
 cases a<;>cases b<;>simp[dQ]at* <;>omega
theorem SR {E:Int} {a b:a8} (b4:a.m≠0→E≤a.e) (dJ:b.m≠0→E≤b.e):(dW a b).V E=a.V E+b.V E:=by
 unfold dW
 by_cases h0:a.m=0
 ·rw[if_pos h0,lZ h0,Int.zero_add]
 ·rw[if_neg h0]
  by_cases h1:b.m=0
  ·rw[if_pos h1,lZ h1,Int.add_zero]
  ·rw[if_neg h1]
   have b4:=b4 h0
   have dJ:=dJ h1
   have le:E≤min a.e b.e:=by omega
   have key:∀d:a8,min a.e b.e≤d.e→dQ d.neg (d.m*2^(d.e - min a.e b.e).toNat)*2^(min a.e b.e - E).toNat=d.V E:=fun d aD=>by
    rw[Zp,Int.mul_assoc,←Int.pow_add]
    unfold a8.V
    rw[show (d.e - min a.e b.e).toNat+(min a.e b.e - E).toNat=(d.e - E).toNat by omega]
   have Ws:=key a (by omega)
   have Wt:=key b (by omega)
   split
   ·rename_i aE
    rw[su _ _ le,arc,Int.add_mul,Ws,aE,Wt]
   ·rename_i aE
    split
    ·rename_i aH
     rw[su _ _ le,aaE aE aH,Int.add_mul,Ws,Wt]
    ·rename_i aH
     rw[su _ _ le,aaE (Ne.symm aE) (by omega),Int.add_mul,Ws,Wt,Int.add_comm]
theorem asn {E F:Int} {a b:a8} (b4:a.m≠0→E≤a.e) (dJ:b.m≠0→F≤b.e):(cV a b).V (E+F)=a.V E*b.V F:=by
 unfold cV
 by_cases h0:a.m=0
 ·rw[lZ h0,lZ (by unfold mk;rw[h0,Nat.zero_mul,if_pos rfl]),Int.zero_mul]
 ·by_cases h1:b.m=0
  ·rw[lZ h1,lZ (by unfold mk;rw[h1,Nat.mul_zero,if_pos rfl]),Int.mul_zero]
  ·have b4:=b4 h0
   have dJ:=dJ h1
   rw[su _ _ (by omega),←arb,show (a.e+b.e - (E+F)).toNat=(a.e - E).toNat+(b.e - F).toNat by omega,Int.pow_add]
   unfold a8.V
   simp only[Int.mul_assoc,Int.mul_left_comm,Int.mul_comm]
theorem apj {E:Int} {d:a8} (k:Int) (l:d.m≠0→E≤d.e):(gi d k).V (E+k)=d.V E:=by
 unfold gi
 by_cases h0:d.m=0
 ·rw[lZ h0,lZ (by unfold mk;rw[if_pos h0])]
 ·have l:=l h0
  rw[su _ _ (by omega)]
  unfold a8.V
  rw[show (d.e+k - (E+k))=d.e - E by omega]
theorem Zq {E:Int} (d:a8):(d.V E).natAbs=d.m*2^(d.e - E).toNat:=by
 unfold a8.V
 rw[Int.natAbs_mul,Io,Int.natAbs_pow];rfl
theorem W6 {E:Int} {d:a8} (h0:d.m≠0) (l:E≤d.e) (hi:Int):d.e+a1 d.m≤hi↔E≤hi∧(d.V E).natAbs<2^(hi - E).toNat:=by
 rw[Zq,←ho,pE h0]
 omega
theorem RU {neg:Bool} {m:Nat} {e:Int} (h:(mk neg m e).m≠0):m≠0:=fun h0=>h (by unfold mk;rw[if_pos h0])
theorem kg {neg:Bool} {m:Nat} {e lo:Int} (l:lo≤e):(mk neg m e).m≠0→lo≤(mk neg m e).e:=fun h=>by
 have:=RU h
 unfold mk
 rw[if_neg this]
 show lo≤e+(b2 m:Int)
 omega
theorem Rx {lo hi:Int} {d:a8} (h:d.ok) (l:d.m≠0→lo≤d.e) (k:lo≤hi) (aB:(d.V lo).natAbs<2^(hi - lo).toNat):d.win lo hi:=
 ⟨h,fun h0=>⟨l h0,(W6 h0 (l h0) hi).2 ⟨k,aB⟩⟩⟩
theorem ad3 {lo hi:Int} {d:a8} (h:d.win lo hi):(d.V lo).natAbs<2^(hi - lo).toNat:=by
 by_cases h0:d.m=0
 ·rw[lZ h0];exact Nat.two_pow_pos _
 ·have:=h.2 h0
  exact((W6 h0 this.1 hi).1 this.2).2
theorem anN {lo hi:Int} {d:a8} (h:d.ok) (h0:d.m=0):d.win lo hi:=⟨h,fun h1=>absurd h0 h1⟩
theorem sf {lo hi:Int} {neg:Bool} {m:Nat} {e:Int} (h:m≠0→lo≤e∧e+a1 m≤hi):(mk neg m e).win lo hi:=by
 by_cases h0:m=0
 ·exact anN (oV ..) (by unfold mk;rw[if_pos h0])
 ·obtain⟨l,k⟩:=h h0
  refine Rx (oV ..) (kg l) (by omega) ?_
  rw[su _ _ l,Int.natAbs_mul,Io,Int.natAbs_pow]
  show m*2^(e - lo).toNat<_
  rw[←ho,pE h0]
  omega
theorem tn {lo hi:Int} {d:a8} (h:d.win lo hi):(eQ d).win lo hi:=⟨Eu h.1,h.2⟩
theorem RW {lo:Int} {a b:a8} (b4:a.m≠0→lo≤a.e) (dJ:b.m≠0→lo≤b.e):(dW a b).m≠0→lo≤(dW a b).e:=by
 unfold dW
 by_cases h0:a.m=0
 ·rw[if_pos h0];exact dJ
 ·rw[if_neg h0]
  by_cases h1:b.m=0
  ·rw[if_pos h1];exact b4
  ·rw[if_neg h1]
   have b4:=b4 h0
   have dJ:=dJ h1
   repeat' split
   all_goals exact kg (by omega)
theorem uQ {lo hi:Int} {a b:a8} (a6:a.win lo hi) (aw:b.win lo hi):(dW a b).win lo (hi+1):=by
 by_cases h0:a.m=0
 ·unfold dW;rw[if_pos h0];exact win.up aw (Int.le_refl _) (by omega)
 ·by_cases h1:b.m=0
  ·unfold dW;rw[if_neg h0,if_pos h1];exact win.up a6 (Int.le_refl _) (by omega)
  ·have:=a6.2 h0
   have aQ:=qR h0
   refine Rx (Nh a6.1 aw.1) (RW (win.lo a6 (Int.le_refl _)) (win.lo aw (Int.le_refl _))) (by omega) ?_
   rw[SR (win.lo a6 (Int.le_refl _)) (win.lo aw (Int.le_refl _))]
   have HI:=ad3 a6
   have HJ:=ad3 aw
   rw[show (hi+1 - lo).toNat=(hi - lo).toNat+1 by omega,Nat.pow_succ]
   omega
theorem uR {lo hi lo' hi':Int} {a b:a8} (a6:a.win lo hi) (aw:b.win lo' hi'):(cV a b).win (lo+lo') (hi+hi'):=by
 unfold cV
 refine sf fun h=> ?_
 have h0:a.m≠0:=fun e=>h (by rw[e,Nat.zero_mul])
 have h1:b.m≠0:=fun e=>h (by rw[e,Nat.mul_zero])
 have:=a6.2 h0
 have:=aw.2 h1
 have:=Cs a.m b.m
 omega
theorem Ii {lo hi:Int} {d:a8} (h:d.win lo hi) (k:Int):(gi d k).win (lo+k) (hi+k):=by
 unfold gi
 refine sf fun h0=> ?_
 have:=h.2 h0
 omega
theorem Ry {lo hi:Int} {d:a8} (h:d.win lo hi) (n:Int) (aJ:0≤n) (up:Bool):(gM d n up).win lo (hi+1):=by
 unfold gM
 split
 ·exact win.up h (Int.le_refl _) (by omega)
 ·rename_i ad
  by_cases h0:d.m=0
  ·rw[h0,pC]at ad;omega
  ·have hw:=h.2 h0
   refine sf fun _=>⟨by omega,?_⟩
   have aE:=Es d.m (a1 d.m - n).toNat
   have a6:=Cr (d.m / 2^(a1 d.m - n).toNat) (if up=d.neg then 0 else 1)
   have h1:a1 (if up=d.neg then 0 else 1)≤1:=by split<;>decide
   have:0<a1 d.m:=qR h0
   by_cases eS:n=0
   ·subst eS
    have:(↑(a1 d.m) - (0:Int)).toNat=a1 d.m:=by omega
    rw[this]at*
    rw[Nat.div_eq_of_lt (kG d.m),Nat.zero_add]at*
    omega
   ·omega
theorem abi {E:Int} {a b:a8} (b4:a.m≠0→E≤a.e) (dJ:b.m≠0→E≤b.e):e4 a b=(a.V E - b.V E).sign:=by
 unfold e4
 rw[aaC (E:=E),SR b4 (show (eQ b).m≠0→E≤(eQ b).e from dJ),aaD,Int.sub_eq_add_neg]
theorem ard {E:Int} {a b:a8} (b4:a.m≠0→E≤a.e) (dJ:b.m≠0→E≤b.e):e4 a b≤0↔a.V E≤b.V E:=by
 rw[abi b4 dJ,Int.sign_nonpos_iff];omega
theorem arf {E:Int} {a b:a8} (b4:a.m≠0→E≤a.e) (dJ:b.m≠0→E≤b.e):e4 a b<0↔a.V E<b.V E:=by
 rw[abi b4 dJ,Int.sign_neg_iff];omega
end RV
namespace RV
theorem abj {n o t:Nat} (h:n=o*2^t) (bz:o % 2=1):b2 n=t:=by
 have h0:n≠0:=fun e=>by
  rw[e]at h
  rcases Nat.mul_eq_zero.1 h.symm with h1|h1
  ·omega
  ·exact absurd h1 (Nat.ne_of_gt (Nat.two_pow_pos t))
 have aE:=jN h0
 exact(W0 aE.2 bz (aE.1.trans h)).2
theorem QU {n:Nat} (h:n≠0) (k:Nat):b2 (2^k*n)=k+b2 n:=by
 have aE:=jN h
 refine abj (o:=n / 2^b2 n) ?_ aE.2
 conv=>lhs;rw[←aE.1]
 rw[Nat.pow_add,Nat.mul_left_comm]
theorem MJ {n:Nat} (h:n≠0):2^b2 n≤n:=by
 have aE:=jN h
 have h2:=aE.2
 conv=>rhs;rw[←aE.1]
 exact Nat.le_mul_of_pos_left _ (Nat.pos_of_ne_zero fun h=>by rw[h]at h2;cases h2)
theorem zM {n k:Nat} (h:n≠0) (ad:n<2^k):b2 n<k:=(Nat.pow_lt_pow_iff_right (a:=2) (by decide)).1 (Nat.lt_of_le_of_lt (MJ h) ad)
theorem arh {x r:Nat} (h:x≠0) (aj:x<16777216):b2 (x+16777216*r)=b2 x:=by
 have aE:=jN h
 have ae:=zM (k:=24) h (by simpa using aj)
 have h2:=aE.2
 refine abj (o:=x / 2^b2 x+2*(2^(23 - b2 x)*r)) ?_ ?_
 ·rw[Nat.add_mul,aE.1]
  congr 1
  have:16777216=2*2^(23 - b2 x)*2^b2 x:=by
   rw[←Nat.pow_succ',←Nat.pow_add,show (23 - b2 x).succ+b2 x=24 by omega]
  rw[show 2*(2^(23 - b2 x)*r)*2^b2 x=2*2^(23 - b2 x)*2^b2 x*r by simp only[Nat.mul_assoc,Nat.mul_left_comm,Nat.mul_comm],←this]
 ·omega
theorem W7:∀{xs:List Int} {i:Nat},(∀k,k<i→xs.getD k 0=0)→val (xs.take i)=0
 |_,0,_=>by simp[val]
 |[],_+1,_=>by simp[val]
 |x::xs,i+1,h=>by
  have h0:=h 0 (by omega)
  simp only[List.getD_cons_zero]at h0
  rw[List.take_succ_cons,val,h0,W7 (fun k ad=>by have:=h (k+1) (by omega);simpa using this)]
  rfl
theorem anO {n i:Nat} (hi:i<(au n).length) (h:∀k,k<i→(au n).getD k 0=0) (eB:(au n).getD i 0≠0):b2 n=24*i+b2 ((au n).getD i 0).toNat:=by
 have aB:=Im (au n) i (by omega)
 rw[W7 h,Nat.zero_add,bT,qQ]at aB
 have aD:=(c4 n).getD i
 have e:n=2^(24*i)*(((au n).getD i 0).toNat+16777216*val ((au n).drop (i+1))):=by rw[←Bg];exact aB
 conv=>lhs;rw[e]
 rw[QU (by omega),arh (by omega) (by omega)]
end RV
namespace RV.Dr
open Go RV
set_option linter.unusedSimpArgs false
set_option linter.unusedVariables false
set_option maxRecDepth 100000
set_option maxHeartbeats 4000000
def hZ:br where
 pre:=fun ds=>∃n:Nat,ds=[aZ n]∧(au n).length≤100000
 res:=fun ds=>match ds with
  |[.ints _ xs]=> .int .i64 (a1 (val xs))
  |_=> .nilp
theorem ad4 (Γ:Env) (ds:List D) (h:hZ.pre ds):bK Γ Ty On ds fun d=>d=hZ.res ds:=by
 obtain⟨n,rfl,hlen⟩:=h
 by_cases h0:n=0
 ·subst h0
  simp (maxSteps:=9^9) only[↓al,ak,simprocAttr,Ty,On,hZ,hv,List.length_nil]
  rfl
 ·have aQ:=x2 h0
  have dr:(((au n).length:Int)==0)=false:=beq_false_of_ne (by omega)
  have aw:=Zi (c4 n) (Zj h0) (Qm h0)
  have aD:=(c4 n).getD ((au n).length - 1)
  have aN:(((au n).length:Int) - 1).toNat=(au n).length - 1:=by omega
  have bR:(0:Int)≤((au n).length:Int) - 1:=by omega
  have bS:((au n).length - 1)<(au n).length:=by omega
  simp (maxSteps:=9^9) only[↓al,ak,simprocAttr,Ty,On,hZ,dr,aN,bR,bS,bT]
  rw[bT]at aw
  refine⟨by simp only[aI];omega,by simp only[aI];omega,?_⟩
  refine cB (fun s=>s.af 3= .d (.int .i64 (a1 n))) ?_ ?_
  ·simp (maxSteps:=9^9) only[↓al,ak,simprocAttr,dr,aN,bR,bS]
   refine⟨?_,by omega,?_⟩
   ·first|omega|(simp only[aI];omega)
   refine eV (fun s=>∃t x:Nat,s.af 3= .d (.int .i64 t)∧s.af 4= .d (.int .i64 x)∧x<16777216∧t≤10000000∧t+a1 x=a1 n)
    (fun s=>match s.af 4 with| .d (.int _ n)=>n.toNat|_=>0) ?_ ?_
   ·refine⟨24*((au n).length - 1),((au n).getD ((au n).length - 1) 0).toNat,?_⟩
    simp (maxSteps:=9^9) only[↓al,ak,simprocAttr]
    refine⟨?_,?_,by omega,by omega,by omega⟩
    ·congr 3;omega
    ·congr 3;omega
   ·rintro s ⟨t,x,aq,aK,aj,ae,aB⟩
    by_cases HK:(x:Int)>0
    ·have dT:=YB (n:=x) (by omega)
     have hx:a1 x≤24:=ho.2 (by simpa using aj)
     have azx:=x3 n
     have avn:(x:Int).tdiv 2=((x / 2:Nat):Int):=by rw[Int.tdiv_eq_ediv_of_nonneg (by omega)];omega
     simp (maxSteps:=9^9) only[↓al,ak,simprocAttr,aq,aK,HK,avn]
     repeat (refine And.intro (by first|omega|(simp only[aI];omega)|(simp only[aI]at*;omega)|(simp only[List.length_append,List.length_cons,List.length_nil,List.length_set,b1];omega)) ?_)
     refine⟨⟨t+1,x / 2,by first|rfl|(congr 3),rfl,by omega,by omega,by omega⟩,by omega⟩
    ·simp (maxSteps:=9^9) only[↓al,ak,simprocAttr,aq,aK,HK]
     have:x=0:=by omega
     subst this
     rw[pC]at aB
     rw[←aB];rfl
  ·rintro s aq
   simp (maxSteps:=9^9) only[↓al,ak,simprocAttr,aq,On]
def aso (xs:List Int):Bool:=(xs.all fun x=>decide (0≤x) && decide (x<16777216)) && (decide (xs.length≤300) && (decide (xs.length=0)||decide (xs.getD (xs.length - 1) 0≠0)))
def fB:br where
 pre:=fun ds=>∃(xs:List Int) (k:Int),ds=[.ints .i64 xs,.int .i64 k]∧ch xs∧xs.length≤10000∧k≤200000
 res:=fun ds=>match ds with
  |[.ints _ xs,.int _ k]=>aZ (val xs*2^k.toNat)
  |_=> .nilp
theorem JT (Γ:Env) (f156:Γ.fn 156=some jc) (q8:Γ.mt 156=none) (ds:List D) (h:fB.pre ds):bK Γ Oi Oj ds fun d=>d=fB.res ds:=by
 obtain⟨xs,k,rfl,aj,c7,ad⟩:=h
 by_cases dr:k≤0
 ·simp (maxSteps:=9^9) only[↓al,ak,simprocAttr,Oi,Oj,fB,dr,f156,q8,jc]
  refine⟨⟨xs,rfl,aj,by omega⟩,?_⟩
  rw[show k.toNat=0 by omega,Nat.pow_zero,Nat.mul_one]
 ·by_cases bR:xs=[]
  ·subst bR
   simp (maxSteps:=9^9) only[↓al,ak,simprocAttr,Oi,Oj,fB,dr,f156,q8,jc,List.length_nil,Int.natCast_zero]
   exact⟨⟨[],rfl,aj,by simp⟩,by simp[val]⟩
  ·have bS:((xs.length:Int)==0)=false:=beq_false_of_ne (by have:=List.length_pos_iff.2 bR;omega)
   have d1:k.tdiv 24=k / 24:=Int.tdiv_eq_ediv_of_nonneg (by omega)
   have d2:k.tmod 24=k % 24:=Int.tmod_eq_emod_of_nonneg (by omega)
   have d3:(k % 24).toNat≤64:=by omega
   obtain⟨q,aO,jZ⟩:=YD (k:=k) (by omega)
   have z7:=Xz (k:=k) (by omega)
   obtain⟨p,aQ⟩:∃p:Nat,p=2^(k % 24).toNat:=⟨_,rfl⟩
   have d4:(1:Int)*2^(k % 24).toNat=(p:Int):=by rw[aQ,Int.one_mul,Int.natCast_pow];rfl
   rw[←aQ]at aO z7
   have eF:0<p:=by rw[aQ];exact Nat.two_pow_pos _
   have jv:p≤8388608:=by
    have:p*2≤p*q:=Nat.mul_le_mul_left _ jZ
    omega
   obtain⟨Q,cw⟩:∃Q:Nat,Q=(k / 24).toNat:=⟨_,rfl⟩
   have d5:k / 24=(Q:Int):=by omega
   rw[←cw]at z7
   simp (maxSteps:=9^9) only[↓al,ak,simprocAttr,Oi,Oj,fB,dr,bS,f156,q8,jc,d1,d2,d3,d4,d5]
   repeat (refine And.intro (by first|omega|(simp only[aI];omega)|(simp only[aI]at*;omega)|(simp only[List.length_append,List.length_cons,List.length_nil,List.length_set,b1];omega)) ?_)
   refine cB (fun s=>∃(out:List Int) (c:Nat),s.af 5= .own 21 0 out.length∧s.aA 21=some ⟨false,false,.ints .i64 out⟩∧s.af 7= .d (.int .i64 c)∧c<16777216∧
    ch out∧out.length=Q+xs.length∧val out+16777216^(Q+xs.length)*c=16777216^Q*(p*val xs)) ?_ ?_
   ·simp (maxSteps:=9^9) only[↓al,ak,simprocAttr,bS,d1,d2]
    refine eV (fun s=>∃(out:List Int) (c i:Nat),s.af 0= .d (.ints .i64 xs)∧s.af 5= .own 21 0 out.length∧s.aA 21=some ⟨false,false,.ints .i64 out⟩∧s.af 6= .d (.int .i64 p)∧s.af 7= .d (.int .i64 c)∧s.af 8= .d (.int .i64 i)∧c<16777216∧
     ch out∧i≤xs.length∧out.length=Q+i∧val out+16777216^(Q+i)*c=16777216^Q*(p*val (xs.take i)))
     (fun s=>match s.af 8 with| .d (.int _ n)=>xs.length - n.toNat|_=>0) ?_ ?_
    ·refine⟨List.replicate Q 0,0,0,?_⟩
     simp (maxSteps:=9^9) only[↓al,ak,simprocAttr,Int.toNat_natCast,List.length_replicate]
     repeat (refine And.intro (by first|omega|(simp only[aI];omega)|(simp only[aI]at*;omega)|(simp only[List.length_append,List.length_cons,List.length_nil,List.length_set,b1];omega)) ?_)
     refine⟨fun x aj=> ?_,?_⟩
     rotate_left
     repeat (refine And.intro (by first|omega|(simp only[aI];omega)|(simp only[aI]at*;omega)|(simp only[List.length_append,List.length_cons,List.length_nil,List.length_set,b1];omega)) ?_)
     ·rw[Ek];simp[val]
     rw[List.eq_of_mem_replicate aj];decide
    ·rintro s ⟨out,c,i,h0,aG,z9,aM,aS,bn,ay,aH,hi,hlen,aB⟩
     by_cases ci:(i:Int)<xs.length
     ·have rP:=aj.getD i
      have aN:i<xs.length:=by omega
      have zL:xs.getD i 0*(p:Int)=(((xs.getD i 0).toNat*p:Nat):Int):=by rw[Int.natCast_mul,Int.toNat_of_nonneg rP.1]
      have z8:(xs.getD i 0).toNat*p≤16777215*8388608:=Nat.mul_le_mul (by omega) jv
      simp (maxSteps:=9^9) only[↓al,ak,simprocAttr,h0,aG,z9,aM,aS,bn,ci,aN,zL]
      generalize jG:((((xs.getD i 0).toNat*p:Nat):Int)+(c:Int))=S
      have e5:=Zm (out:=out) (c:=c) (p:=p) (x:=(xs.getD i 0).toNat) (s:=S) (by omega) hlen aB
      have GS:0≤S:=by omega
      have aX:S.tdiv 16777216=S / 16777216:=Int.tdiv_eq_ediv_of_nonneg GS
      have cc:S.tmod 16777216=S % 16777216:=Int.tmod_eq_emod_of_nonneg GS
      rw[aX,cc]at e5
      simp only[aX,cc]
      repeat (refine And.intro (by first|omega|(simp only[aI];omega)|(simp only[aI]at*;omega)|(simp only[List.length_append,List.length_cons,List.length_nil,List.length_set,b1];omega)) ?_)
      refine⟨⟨out++[S % 16777216],(S / 16777216).toNat,i+1,?_⟩,by omega⟩
      simp only[List.length_append,List.length_cons,List.length_nil,Nat.zero_add]
      refine⟨by first|rfl|trivial,by first|rfl|trivial,?_,?_,by omega,aH.snoc (by omega) (by omega),by omega,by omega,?_⟩
      ·congr 3;omega
      ·congr 3
      ·rw[D5 aN,←Nat.add_assoc];exact e5
     ·simp (maxSteps:=9^9) only[↓al,ak,simprocAttr,h0,aG,z9,aM,aS,bn,ci]
      have:i=xs.length:=by omega
      subst this
      rw[List.take_length]at aB
      exact⟨out,c,rfl,rfl,rfl,ay,aH,hlen,aB⟩
   ·rintro s ⟨out,c,aG,z9,aS,ay,aH,hlen,aB⟩
    simp (maxSteps:=9^9) only[↓al,ak,simprocAttr,aG,z9,aS,f156,q8,jc]
    repeat (refine And.intro (by first|omega|(simp only[aI];omega)|(simp only[aI]at*;omega)|(simp only[List.length_append,List.length_cons,List.length_nil,List.length_set,b1];omega)) ?_)
    rw[List.take_length]
    refine⟨⟨_,rfl,aH.snoc (by omega) (by omega),by simp only[List.length_append,List.length_cons,List.length_nil];omega⟩,?_⟩
    rw[AY,hlen,Int.toNat_natCast,aB,←z7,←Nat.mul_assoc,Nat.mul_comm]
def jW:br where
 pre:=fun ds=>∃(xs:List Int) (k:Int),ds=[.ints .i64 xs,.int .i64 k]∧ch xs∧xs.length≤20000∧k≤2000000
 res:=fun ds=>match ds with
  |[.ints _ xs,.int _ k]=>aZ (val xs / 2^k.toNat)
  |_=> .nilp
theorem JU (Γ:Env) (f156:Γ.fn 156=some jc) (q8:Γ.mt 156=none) (f157:Γ.fn 157=some p9) (Fo:Γ.mt 157=none) (ds:List D) (h:jW.pre ds):bK Γ Tz TA ds fun d=>d=jW.res ds:=by
 obtain⟨xs,k,rfl,aj,c7,ad⟩:=h
 by_cases dr:k≤0
 ·simp (maxSteps:=9^9) only[↓al,ak,simprocAttr,Tz,TA,jW,dr,f156,q8,jc]
  refine⟨⟨xs,rfl,aj,by omega⟩,?_⟩
  rw[show k.toNat=0 by omega,Nat.pow_zero,Nat.div_one]
 ·have d1:k.tdiv 24=k / 24:=Int.tdiv_eq_ediv_of_nonneg (by omega)
  have d2:k.tmod 24=k % 24:=Int.tmod_eq_emod_of_nonneg (by omega)
  have d3:(k % 24).toNat≤64:=by omega
  obtain⟨q,aO,jZ⟩:=YD (k:=k) (by omega)
  have z7:=Xz (k:=k) (by omega)
  obtain⟨p,aQ⟩:∃p:Nat,p=2^(k % 24).toNat:=⟨_,rfl⟩
  have d4:(1:Int)*2^(k % 24).toNat=(p:Int):=by rw[aQ,Int.one_mul,Int.natCast_pow];rfl
  rw[←aQ]at aO z7
  have eF:0<p:=by rw[aQ];exact Nat.two_pow_pos _
  have jv:p≤8388608:=by
   have:p*2≤p*q:=Nat.mul_le_mul_left _ jZ
   omega
  obtain⟨Q,cw⟩:∃Q:Nat,Q=(k / 24).toNat:=⟨_,rfl⟩
  have d5:k / 24=(Q:Int):=by omega
  rw[←cw]at z7
  simp (maxSteps:=9^9) only[↓al,ak,simprocAttr,Tz,TA,jW,dr,f156,q8,jc,d1,d2,d3,d4,d5]
  repeat (refine And.intro (by first|omega|(simp only[aI];omega)|(simp only[aI]at*;omega)|(simp only[List.length_append,List.length_cons,List.length_nil,List.length_set,b1];omega)) ?_)
  refine cB (fun s=>∃out:List Int,s.af 7= .own 7 0 out.length∧s.aA 7=some ⟨false,false,.ints .i64 out⟩∧ch out∧out.length≤20000∧val out=val (xs.drop Q) / p) ?_ ?_
  ·simp (maxSteps:=9^9) only[↓al,ak,simprocAttr]
   refine eV (fun s=>∃out:List Int,s.af 0= .d (.ints .i64 xs)∧s.af 6= .d (.int .i64 p)∧s.af 7= .own 7 0 out.length∧s.aA 7=some ⟨false,false,.ints .i64 out⟩∧s.af 8= .d (.int .i64 (Q+out.length:Nat))∧
    ch out∧(out.length=0∨Q+out.length≤xs.length)∧val out+16777216^out.length*(val (xs.drop (Q+out.length)) / p)=val (xs.drop Q) / p)
    (fun s=>match s.af 8 with| .d (.int _ n)=>xs.length - n.toNat|_=>0) ?_ ?_
   ·refine⟨[],?_⟩
    simp (maxSteps:=9^9) only[↓al,ak,simprocAttr,List.length_nil,Nat.add_zero]
    refine⟨?_,?_⟩
    ·intro x aj;cases aj
    ·repeat (refine And.intro (by first|omega|(simp only[aI];omega)|(simp only[aI]at*;omega)|(simp only[List.length_append,List.length_cons,List.length_nil,List.length_set,b1];omega)) ?_)
     simp[val]
   ·rintro s ⟨out,h0,aM,aS,b6,bn,aH,hlen,aB⟩
    by_cases ci:((Q+out.length:Nat):Int)<xs.length
    ·have rP:=aj.getD (Q+out.length)
     have KR:=aj.getD (Q+out.length+1)
     have aN:Q+out.length<xs.length:=by omega
     obtain⟨x,jI⟩:∃x:Nat,xs.getD (Q+out.length) 0=(x:Int):=⟨_,(Int.toNat_of_nonneg rP.1).symm⟩
     obtain⟨y,jk⟩:∃y:Nat,xs.getD (Q+out.length+1) 0=(y:Int):=⟨_,(Int.toNat_of_nonneg KR.1).symm⟩
     have aX:¬((p:Int)=0):=by omega
     have cc:(x:Int).tdiv p=((x / p:Nat):Int):=Int.ofNat_tdiv x p
     have cN:(y:Int).tmod p=((y % p:Nat):Int):=Int.ofNat_tmod y p
     have dN:(16777216:Int).tdiv p=(q:Int):=by
      have:(16777216:Int)=((16777216:Nat):Int):=rfl
      rw[this,←aO,←Int.ofNat_tdiv,Nat.mul_div_cancel_left _ eF]
     have fH:((Q+out.length:Nat):Int)+1=((Q+out.length+1:Nat):Int):=by omega
     have HC:((y % p:Nat):Int)*(q:Int)=((y % p*q:Nat):Int):=by rw[Int.natCast_mul]
     have r0:((x / p:Nat):Int)+((y % p*q:Nat):Int)=((x / p+y % p*q:Nat):Int):=by rw[Int.natCast_add]
     have z8:=Zl eF aO (x:=x) (by omega) y
     have e5:=Zk eF aO x (val (xs.drop (Q+out.length+1)))
     rw[Xy aO,jk,Int.toNat_natCast]at e5
     rw[qQ xs (Q+out.length),jI,Int.toNat_natCast,e5]at aB
     have DG:q≤16777216:=by
      have:1*q≤p*q:=Nat.mul_le_mul_right _ eF
      omega
     have hle:x / p≤x:=Nat.div_le_self _ _
     simp (maxSteps:=9^9) only[↓al,ak,simprocAttr,h0,aM,aS,b6,bn,ci,aN,jI,aX,cc,cN,dN,f157,Fo,p9,fH,Int.toNat_natCast,jk,HC,r0]
     generalize x / p=U at*
     generalize y % p*q=W at*
     repeat (refine And.intro (by first|omega|(simp only[aI];omega)|(simp only[aI]at*;omega)|(simp only[List.length_append,List.length_cons,List.length_nil,List.length_set,b1];omega)) ?_)
     refine⟨⟨xs,Q+out.length+1,rfl⟩,?_⟩
     repeat (refine And.intro (by first|omega|(simp only[aI];omega)|(simp only[aI]at*;omega)|(simp only[List.length_append,List.length_cons,List.length_nil,List.length_set,b1];omega)) ?_)
     refine⟨⟨out++[((U+W:Nat):Int)],rfl,rfl,?_,?_⟩,by omega⟩
     ·simp only[List.length_append,List.length_cons,List.length_nil];omega
     ·refine⟨aH.snoc (by omega) (by omega),.inr (by simp only[List.length_append,List.length_cons,List.length_nil];omega),?_⟩
      rw[AY,Int.toNat_natCast,List.length_append,List.length_singleton,←aB,Nat.pow_succ,←Nat.add_assoc Q,Nat.mul_assoc,Nat.add_assoc,←Nat.mul_add]
    ·simp (maxSteps:=9^9) only[↓al,ak,simprocAttr,h0,aM,aS,b6,bn,ci]
     refine⟨out,rfl,rfl,aH,by omega,?_⟩
     rw[←aB,List.drop_of_length_le (by omega)]
     simp[val]
  ·rintro s ⟨out,aS,b6,aH,hlen,aB⟩
   simp (maxSteps:=9^9) only[↓al,ak,simprocAttr,aS,b6,f156,q8,jc]
   rw[List.take_length]
   refine⟨⟨_,rfl,aH,by omega⟩,?_⟩
   rw[aB,H6 aj,Nat.div_div_eq_div_mul,z7]
end RV.Dr
