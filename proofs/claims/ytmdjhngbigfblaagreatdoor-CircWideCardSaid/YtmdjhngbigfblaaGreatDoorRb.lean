/- Lemmas for a claim: an abstract machine for the translated code, proved sound, and contracts of functions. By an AI agent. -/
import Derived.Test.YtmdjhngbigfblaaGreatDoorRa
set_option linter.all false
namespace RV
open Go Go.RowKit
section
variable {N:Nat} {aU:eW} {aP:Mem} {R:bU} {σ σ':St} {a:Act} {w w':World} {rd:Mem} {β β':bU} {P:Program} {Γ:Env}
theorem WY {size m cap:Nat} {A:Option Addr} {vs:List Value} (aJ:vs.length=m*size) (aC:∀j x,vs[j]? =some x→∃aV,A=some aV∧w.cell? (aV.add j)=some x):
 (Builtin.firstCells size m (.slice A m cap)).run P w= .ok vs.toArray w:=by
 cases A with
 |none=>
  have:vs=[]:=by
   cases vs with
   |nil=>rfl
   |cons v vs=>obtain⟨aV,h,_⟩:=aC 0 v rfl;cases h
  subst this
  exact run_firstCells_none w size m m cap
 |some aV=>
  exact run_firstCells_some w size m aV m cap vs aJ fun j x aH=>by
   obtain⟨an0,h1,h2⟩:=aC j x aH
   simp only[Option.some.injEq]at h1
   subst h1;exact h2
theorem Kx (h:bl N aU aP R σ a w rd β) {v:ai} {u:Value} {d:D} {c:BC} (aL:toD σ v=some d) (au:d.yA=some c) (hu:aX rd β v u):
 ∃A cap vs,u= .slice A c.count cap∧vs.length=c.count*c.e0∧c.wf∧bV rd c.elems vs∧(∀j x,vs[j]? =some x→∃aV,A=some aV∧w.cell? (aV.add j)=some x):=by
 have fin:∀{A:Option Addr} {cap:Nat} {b o:Nat},u= .slice A c.count cap→c.wf→c.arr=true→A=some (cellAt b o)→cZ w rd b o c.elems→
  ∃A cap vs,u= .slice A c.count cap∧vs.length=c.count*c.e0∧c.wf∧bV rd c.elems vs∧(∀j x,vs[j]? =some x→∃aV,A=some aV∧w.cell? (aV.add j)=some x):=by
  intro A cap b o he hw a9 hA aln
  obtain⟨us,bE,bM,bn⟩:=aln.HD
  exact⟨A,cap,us,he,by rw[bM,J7 hw a9],hw,bE,fun j x aH=>⟨_,hA,by rw[wv];exact bn j x aH⟩⟩
 have nil:∀{A:Option Addr} {cap:Nat},u= .slice A c.count cap→c.wf→c.elems=[]→c.count*c.e0=0→
  ∃A cap vs,u= .slice A c.count cap∧vs.length=c.count*c.e0∧c.wf∧bV rd c.elems vs∧(∀j x,vs[j]? =some x→∃aV,A=some aV∧w.cell? (aV.add j)=some x):=by
  intro A cap he hw h0 h1
  exact⟨A,cap,[],he,by rw[h1];rfl,hw,by rw[h0];simp only[bV],by simp⟩
 cases v with
 |d x=>
  simp only[toD,Option.some.injEq]at aL
  subst aL
  simp only[aX]at hu
  cases x<;>simp only[D.yA,Option.some.injEq,reduceCtorEq]at au
  case ints k xs=>
   subst au
   simp only[bA]at hu
   obtain⟨A,cap,he,_,H⟩:=hu
   rcases H with rfl|⟨b,o,hA,H⟩
   ·exact nil he trivial rfl (by simp[BC.count])
   ·exact fin he trivial rfl hA (cZ.ints.1 (H.mono h.c3))
  case flts xs=>
   subst au
   simp only[bA]at hu
   obtain⟨A,cap,he,_,H⟩:=hu
   rcases H with rfl|⟨b,o,hA,H⟩
   ·exact nil he trivial rfl (by simp[BC.count])
   ·exact fin he trivial rfl hA (cZ.flts.1 (H.mono h.c3))
  case recs sz xs=>
   subst au
   simp only[bA]at hu
   obtain⟨A,cap,he,_,H⟩:=hu
   rcases H with rfl|⟨b,o,hA,H⟩
   ·exact nil he (fun _ ar=>by cases ar) rfl (by simp[BC.count])
   ·have key:∀{xs:List (List D)} {o:Nat},gq rd b sz o xs→hR w rd b sz o xs:=by
     intro xs
     induction xs with
     |nil=>intro o _;trivial
     |cons r rs cM=>
      intro o H
      simp only[gq]at H
      exact⟨H.1,cZ.iff.2 (cX.Pl (β:=fun _=>none) h.c3 H.2.1),cM H.2.2⟩
    obtain⟨h1,h2⟩:=cZ.rows.1 (key H)
    exact fin he h1 rfl hA h2
 |own i lo n=>
  simp only[toD]at aL
  split at aL
  ·rename_i Cr aw
   simp only[aX]at hu
   obtain⟨A,cap,he,aQ,H⟩:=hu
   cases ho:Cr.c with
   |cells cs=>simp[ho,BC.part]at aL
   |ints k xs=>
    simp only[ho,BC.part]at aL
    split at aL
    ·simp only[Option.some.injEq]at aL;subst aL
     simp only[D.yA,Option.some.injEq]at au;subst au
     have zQ:(BC.ints k ((xs.drop lo).take n)).count=n:=by simp[BC.count];omega
     rw[←zQ]at he
     rcases H with ⟨rfl,rfl⟩|⟨r,ar,hA,_⟩
     ·exact nil he trivial (by simp[BC.elems]) (by rw[zQ,Nat.zero_mul])
     ·obtain⟨cy,et,cA,_⟩:=h.box i r ar
      rw[aw]at et;simp only[Option.some.injEq]at et;subst et
      rw[ho]at cA
      have:=cA.2.2.sub (lo:=lo) n
      rw[cA.1,Nat.mul_one]at hA
      exact fin he trivial rfl hA (cZ.ints.1 this)
    ·cases aL
   |flts xs=>
    simp only[ho,BC.part]at aL
    split at aL
    ·simp only[Option.some.injEq]at aL;subst aL
     simp only[D.yA,Option.some.injEq]at au;subst au
     have zQ:(BC.flts ((xs.drop lo).take n)).count=n:=by simp[BC.count];omega
     rw[←zQ]at he
     rcases H with ⟨rfl,rfl⟩|⟨r,ar,hA,_⟩
     ·exact nil he trivial (by simp[BC.elems]) (by rw[zQ,Nat.zero_mul])
     ·obtain⟨cy,et,cA,_⟩:=h.box i r ar
      rw[aw]at et;simp only[Option.some.injEq]at et;subst et
      rw[ho]at cA
      have:=cA.2.2.sub (lo:=lo) n
      rw[cA.1,Nat.mul_one]at hA
      exact fin he trivial rfl hA (cZ.flts.1 this)
    ·cases aL
   |recs sz xs=>
    simp only[ho,BC.part]at aL
    split at aL
    ·simp only[Option.some.injEq]at aL;subst aL
     simp only[D.yA,Option.some.injEq]at au;subst au
     have zQ:(BC.recs sz ((xs.drop lo).take n)).count=n:=by simp[BC.count];omega
     rw[←zQ]at he
     rcases H with ⟨rfl,rfl⟩|⟨r,ar,hA,_⟩
     ·exact nil he (fun _ ar=>by simp at ar) (by simp[BC.elems]) (by rw[zQ,Nat.zero_mul])
     ·obtain⟨cy,et,cA,_⟩:=h.box i r ar
      rw[aw]at et;simp only[Option.some.injEq]at et;subst et
      rw[ho]at cA
      have:=cA.2.2.sub (lo:=lo) n
      rw[cA.1]at hA
      obtain⟨h1,h2⟩:=cZ.rows.1 this
      exact fin he h1 rfl hA h2
    ·cases aL
  ·cases aL
 |box i off=>
  exfalso
  cases off with
  |zero=>
   simp only[toD]at aL
   split at aL
   ·split at aL
    ·simp only[Option.some.injEq]at aL;subst aL;cases au
    ·cases aL
   ·cases aL
  |succ n=>simp[toD]at aL
 |agg cs=>
  exfalso
  simp only[toD]at aL
  split at aL
  ·simp only[Option.some.injEq]at aL;subst aL;cases au
  ·cases aL
 |dr f x y=>
  exfalso
  simp only[toD]at aL
  split at aL
  ·simp only[Option.some.injEq]at aL;subst aL;cases au
  ·cases aL
 |ea i j o=>simp[toD]at aL
 |dF l=>simp[toD]at aL
 |dt=>simp[toD]at aL
 |any=>simp[toD]at aL
theorem ajo {c c':BC} {d:D} (h:Br c d=some c'):∃fS,d.yA=some fS∧c.arr=true∧c'.arr=true∧fS.e0=c.e0∧c'.e0=c.e0∧c'.elems=c.elems++fS.elems∧c'.count=c.count+fS.count∧(c.wf→fS.wf→c'.wf)∧
 (fS.count=0→c'=c)∧(fS.elems.map ai.d).all ai.dY=true:=by
 unfold Br at h
 split at h
 ·rename_i k xs eH aB
  split at h
  ·rename_i e;subst e
   simp only[Option.some.injEq]at h;subst h
   exact⟨.ints eH aB,rfl,rfl,rfl,rfl,rfl,by simp[BC.elems],by simp[BC.count],fun _ _=>trivial,fun e=>by
    have:aB=[]:=List.eq_nil_of_length_eq_zero e
    simp[this],by simp[BC.elems,ai.dY]⟩
  ·cases h
 ·rename_i xs aB
  simp only[Option.some.injEq]at h;subst h
  exact⟨.flts aB,rfl,rfl,rfl,rfl,rfl,by simp[BC.elems],by simp[BC.count],fun _ _=>trivial,fun e=>by
   have:aB=[]:=List.eq_nil_of_length_eq_zero e
   simp[this],by simp[BC.elems,ai.dY]⟩
 ·rename_i sz xs BO aB
  split at h
  ·rename_i e;obtain⟨rfl,SW⟩:=e
   simp only[Option.some.injEq]at h;subst h
   exact⟨.recs BO aB,rfl,rfl,rfl,rfl,rfl,by simp[BC.elems],by simp[BC.count],fun h1 h2 r ar=>by
    rcases List.mem_append.1 ar with ar|ar
    ·exact h1 r ar
    ·exact h2 r ar,fun e=>by
    have:aB=[]:=List.eq_nil_of_length_eq_zero e
    simp[this],by simpa [BC.elems,AL]using SW⟩
  ·cases h
 ·cases h
theorem aj0 {c:BC} (h:c.arr=true) (i:Nat):c.kill i=c:=by cases c<;>first|rfl|cases h
theorem Xr (σ:St) {i:Nat} {f e:Bool} {c:BC} (h:c.arr=true):(σ.forget i).eF i ⟨f,e,c⟩=(σ.eF i ⟨f,e,c⟩).forget i:=by
 unfold St.forget St.eF qX
 congr 1
 funext j
 by_cases aH:j=i
 ·simp[aH,cr.kill,aj0 h]
 ·simp[aH]
theorem bl.forget (h:bl N aU aP R σ a w rd β) (i:Nat):bl N aU aP R (σ.forget i) a w rd β where
 size:=h.size
 defers:=h.defers
 cV:=h.cV
 dy:=h.dy
 c3:=h.c3
 dK:=h.dK
 aP:=h.aP
 eX:=fun j r b aH aj br aV a9=>by
  obtain⟨dc,h0,_⟩:=h.box j r aH
  simp only[St.forget,h0,Option.map_some,Option.some.injEq]at aj
  subst aj
  exact h.eX j r dc aH h0 br aV a9
 eY:=fun t=>aX.kill (fun _ _=>rfl) (h.eY t)
 box:=fun j r aH=>by
  obtain⟨dc,h0,dL,fF,h1,h2⟩:=h.box j r aH
  refine⟨dc.kill i,by simp[St.forget,h0],?_,fF,h1,h2⟩
  have:=dL.gJ (β':=β) (f:=ai.kill i) (fun x v aj=>aX.kill (fun _ _=>rfl) aj) (w':=w) (fun _ _ _=>rfl)
  rw[cr.GX]
  exact this
 eL:=fun j b aj aH=>by
  cases h0:σ.az j with
  |none=>simp[St.forget,h0]at aj
  |some dc=>
   simp only[St.forget,h0,Option.map_some,Option.some.injEq]at aj
   subst aj
   obtain⟨bE,bM⟩:=h.eL j dc h0 aH
   exact⟨bE,by rw[←bM,cr.GX];exact CJ _ dc.c⟩
 eR:=h.eR
end
end RV
namespace RV
open Go Go.RowKit
section
variable {N:Nat} {aU:eW} {aP:Mem} {R:bU} {σ σ':St} {a:Act} {w w':World} {rd rd':Mem} {β β':bU} {P:Program} {Γ:Env}
def fD (P:Program) (N:Nat) (aU:eW) (aP:Mem) (R:bU) (o:Oper) (a:Act) (w:World) (K:St→Prop):Prop:=
 ∀(next:Act→World→Prop) (Q:Exit→Act→World→Prop),(∀σ' ct w' rd' β',K σ'→bl N aU aP R σ' ct w' rd' β'→next ct w')→o.wp P a w next Q
theorem fD.value {o:Oper} {K:St→Prop} {u:Value} {v:ai} (ar:(execOp a.eval o).run P w= .ok (.value u) w') (h:bl N aU aP R σ' a w' rd' β') (aC:aX rd' β' v u)
 (aL:h8 N o.dst=true) (cj:K (σ'.put o.dst v)):fD P N aU aP R o a w K:=fun next Q aQ=>by
 unfold Oper.wp
 rw[ar,Oper.upon_value]
 exact aQ _ _ _ _ _ cj (h.put aL aC)
theorem fD.skip {o:Oper} {K:St→Prop} (ar:(execOp a.eval o).run P w= .ok .skip w') (h:bl N aU aP R σ' a w' rd' β')
 (aL:h8 N o.dst=true) (cj:K (σ'.put o.dst .dt)):fD P N aU aP R o a w K:=fun next Q aQ=>by
 unfold Oper.wp
 rw[ar,Oper.upon_skip]
 exact aQ _ _ _ _ _ cj (h.put aL (by simp only[aX]))
theorem hx.goes {o:Oper} {K:St→Prop} (aL:h8 N o.dst=true) (h:hx P N aU aP R σ a w β o fun v=>K (σ.put o.dst v)):fD P N aU aP R o a w K:=by
 obtain⟨av,u,w',rd',h1,h2,aq,aE⟩:=h
 exact fD.value aE h2 aq aL h1
theorem aih {ty:TypeId} {op:Op} {l:bJ} (ah:dV P ty op=some l) (hm:l.makes=true):
 (∃e z,op= .alloc e∧A6 P e=some z∧l= .alloc z)∨(∃e x v,op= .box e x∧qP P e x=some v∧l= .box v)∨
 (∃t n c e ek z v,op= .makeSlice t n c∧P.underlying t=some (.slice e)∧ts P e=some ek∧A6 P e=some z∧eh P n=some v∧K0 n c=true∧AX P e=true∧l= .rq ek z v)∨
 (∃ek,l= .nil ek∧(op= .assign (.const (.slice none 0 0))∨∃t e parts,op= .buildSlice t 0 parts∧P.underlying t=some (.slice e)∧ts P e=some ek∧parts.toList.isEmpty=true)):=by
 cases op with
 |alloc e=>obtain⟨z,h1,rfl⟩:=map_some ah;exact .inl ⟨e,z,rfl,h1,rfl⟩
 |box e x=>obtain⟨z,h1,rfl⟩:=map_some ah;exact .inr (.inl ⟨e,x,z,rfl,h1,rfl⟩)
 |makeSlice t n c=>
  simp only[dV,wL]at ah
  split at ah
  ·rename_i e v hu aQ
   split at ah
   ·rename_i ek z lp br
    split at ah
    ·rename_i aG
     simp only[Option.some.injEq]at ah;subst ah
     simp only[Bool.and_eq_true]at aG
     exact .inr (.inr (.inl ⟨t,n,c,e,ek,z,v,rfl,hu,lp,br,aQ,aG.1,aG.2,rfl⟩))
    ·cases ah
   ·cases ah
  ·cases ah
 |assign x=>
  simp only[dV,uP]at ah
  split at ah
  ·obtain⟨ek,h1,rfl⟩:=map_some ah
   exact .inr (.inr (.inr ⟨ek,rfl,.inl rfl⟩))
  ·obtain⟨v,h1,rfl⟩:=map_some ah
   cases hm
 |buildSlice t len parts=>
  simp only[dV,vm]at ah
  split at ah
  ·rename_i e hu
   split at ah
   ·rename_i ek lp
    split at ah
    ·split at ah
     ·rename_i aJ
      split at ah
      ·rename_i a1
       simp only[Option.some.injEq]at ah;subst ah;subst aJ
       exact .inr (.inr (.inr ⟨ek,rfl,.inr ⟨t,e,parts,rfl,hu,lp,a1⟩⟩))
      ·cases ah
     ·split at ah
      ·obtain⟨v,h1,rfl⟩:=map_some ah
       cases hm
      ·cases ah
    ·cases ah
   ·cases ah
  ·cases ah
 |call c=>
  exfalso
  simp only[dV,vb]at ah
  split at ah
  ·simp only[uL]at ah
   repeat' (split at ah)
   all_goals first
    |(cases ah;done)
    |(obtain⟨v,_,rfl⟩:=map_some ah;cases hm;done)
    |(simp only[Option.some.injEq]at ah;subst ah;cases hm;done)
  ·obtain⟨v,_,rfl⟩:=map_some ah;cases hm
  ·split at ah
   ·simp only[Option.some.injEq]at ah;subst ah;cases hm
   ·cases ah
  ·cases ah
 |makeFunc f x y=>
  exfalso
  cases f with
  |func f=>
   simp only[dV,va]at ah
   split at ah
   ·simp only[Option.some.injEq]at ah;subst ah;cases hm
   ·cases ah
  |_=>cases ah
 |_=>
  exfalso
  first
   |(cases ah;done)
   |(obtain⟨v,_,rfl⟩:=map_some ah;cases hm;done)
   |(have:=Option.some.inj ah;subst this;cases hm;done)
   |(simp only[dV,u6,u7,wH,vl,u9,uW,uX,uY,uZ,u0,u1]at ah
     repeat' (split at ah)
     all_goals first
      |(cases ah;done)
      |(obtain⟨v,_,rfl⟩:=map_some ah;cases hm;done)
      |(simp only[Option.some.injEq]at ah;subst ah;cases hm;done))
theorem ahZ {x y:Operand} (h:K0 x y=true):a.eval x=a.eval y:=by
 unfold K0 at h
 split at h
 ·simp only[beq_iff_eq]at h;subst h;rfl
 ·simp only[Bool.and_eq_true,beq_iff_eq]at h;rw[h.1,h.2]
 ·cases h
theorem Xe {e:TypeId} {i:TypeInfo} {ek:eG} (hi:P.info? e=some i) (lp:ts P e=some ek):i.size=ek.sz:=by
 have:=(Gr lp).1
 simpa [hT,hi]using this
theorem uK (β:bU) (i:Nat) (r:Option dp):fC β i r i=r:=if_pos rfl
theorem GC (h:bl N aU aP R σ a w rd β) {o:Oper} {l:bJ} (ah:dV P o.type o.op=some l) (hm:l.makes=true) (aL:h8 N o.dst=true) {i:Nat} {g:cr→St} {f:ai→ai} {K:St→Prop}
 (af:made σ l (fun v b=>K ((g b).put o.dst v)) i) (en:∀b,De σ (g b) i b rd β f)
 (aj:∀x,l= .box x→∀r vs,b6 rd β (σ.a3 x).cells vs→b6 rd (fC β i r) (σ.a3 x).cells vs):fD P N aU aP R o a w K:=by
 rcases aih ah hm with ⟨e,z,bQ,br,rfl⟩|⟨e,x,v,bQ,aC,rfl⟩|⟨t,n,c,e,ek,z,v,bQ,hu,lp,br,aQ,Bc,an1,rfl⟩|⟨ek,rfl,bQ⟩
 ·obtain⟨inf,Cs,hi,Ik,sP⟩:=J6 br (rd:=rd)
  refine fD.value (u:= .pointer (some (cellAt w.heap.size 0))) ?_ (PL h (en _) (arr:=Cs.cells) (e:=e) (AA sP)) ?_ aL af
  ·simp only[execOp,bQ,Instr.alloc,Sem.run_bind,GK hi Ik,Result.andThen_ok,newVar,newRow,run_newObj,Sem.run_pure]
   rfl
  ·simp only[aX]
   exact⟨jb w _ 1,uK _ _ _,rfl⟩
 ·simp only[made]at af
  have ar:=O3 af.1 (yR h aC)
  refine fD.value (u:= .pointer (some (cellAt w.heap.size 0))) ?_ (PL h (en _) (arr:=(a.eval x).cells) (e:=e) (aj v rfl _ _ ar)) ?_ aL af.2
  ·simp only[execOp,bQ,Instr.box,newVar,newRow,Sem.run_bind,run_newObj,Sem.run_pure,Result.andThen_ok]
   rfl
  ·simp only[aX]
   exact⟨jb w _ 1,uK _ _ _,rfl⟩
 ·simp only[made]at af
  split at af
  ·rename_i k m vE
   split at af
   ·rename_i yB di
    obtain⟨h0,Lx,af⟩:=af
    have zR:=e4 h aQ
    rw[vE]at zR
    simp only[aX,bA]at zR
    obtain⟨inf,Cs,hi,Ik,sP⟩:=J6 br (rd:=rd)
    have fG:=Xe hi lp
    have aw:inf.bytes≤4096:=by simpa [AX,hi]using an1
    have sQ:Cs.cells.size=ek.sz∨m.toNat=0:=by
     unfold uT at di
     split at di
     ·simp only[bV,bA]at sP
      obtain⟨_,_,dW,_,rfl⟩:=sP
      left;rw[←Array.length_toList,dW];rfl
     ·simp only[bV,bA]at sP
      obtain⟨_,_,dW,_,rfl⟩:=sP
      left;rw[←Array.length_toList,dW];rfl
     ·split at di
      ·rename_i aJ
       left;rw[←Array.length_toList,yN sP,aJ];rfl
      ·cases di
     ·cases di
    have sQ:Cs.cells.size=ek.sz:=by
     rcases sQ with sQ|sQ
     ·exact sQ
     ·unfold uT at di
      split at di
      ·simp only[bV,bA]at sP
       obtain⟨_,_,dW,_,rfl⟩:=sP
       rw[←Array.length_toList,dW];rfl
      ·simp only[bV,bA]at sP
       obtain⟨_,_,dW,_,rfl⟩:=sP
       rw[←Array.length_toList,dW];rfl
      ·split at di
       ·rename_i aJ
        rw[←Array.length_toList,yN sP,aJ];rfl
       ·cases di
      ·cases di
    have vo:=run_make (P:=P) w t e inf Cs hu hi Ik k k m m h0 (Int.le_refl _) (by
     have:(inf.bytes:Int)*m≤4096*4294967296:=by
      refine Int.mul_le_mul (by omega) Lx h0 (by omega)
     omega) (by simp only[b4]at Lx;omega)
    have hlen:(madeCells Cs.cells (m.toNat*inf.size)).size=m.toNat*ek.sz:=by rw[size_madeCells,fG]
    refine fD.value (u:= .slice (some ⟨w.heap.size,0,none⟩) m.toNat m.toNat) (w':=w.alloc (.cells (madeCells Cs.cells (m.toNat*inf.size)) e)) ?_ (PN h (en _) (sz:=ek.sz) ?_) ?_ aL af
    ·have cT:a.eval c= .int k m:=by rw[←ahZ Bc];exact zR
     simp only[execOp,bQ,zR,cT,Sem.run_bind,vo,Result.andThen_ok,Sem.run_pure]
    ·refine ajn di sP sQ rfl (by simp only[jb];rw[hlen];exact Nat.le_refl _) fun j x aH aj=> ?_
     show (w.alloc _).cell? (cellAt w.heap.size (0+j))=some x
     rw[Nat.zero_add,Pp]
     unfold madeCells
     exact ajm (n:=m.toNat) (size:=inf.size) (by rw[sQ,fG]) (by rw[fG];exact aH) (by rw[fG];exact aj)
    ·simp only[aX]
     refine⟨_,_,rfl,Nat.le_refl _,.inr ⟨jb w _ ek.sz,uK _ _ _,by simp only[jb,Nat.zero_mul,Nat.add_zero];rfl,fun _=> ?_⟩⟩
     simp only[jb];rw[hlen];omega
   ·exact af.elim
  ·exact af.elim
 ·simp only[made]at af
  rcases bQ with bQ|⟨t,e,parts,bQ,hu,lp,a1⟩
  ·refine fD.value (u:= .slice none 0 0) (w':=w) (by simp[execOp,bQ,Act.eval]) (Z8 h (en _) (by cases ek<;>rfl)) ?_ aL af
   simp only[aX]
   exact⟨none,0,rfl,Nat.le_refl _,.inl (by simp)⟩
  ·obtain⟨ya,HE⟩:=Gr lp
   have vF:parts= #[]:=by
    apply Array.ext'
    simpa using a1
   have he:∀f:Nat→Value,(Array.range 0).map f= #[]:=fun f=>Array.eq_empty_of_size_eq_zero (by simp)
   have dL:fq (w.alloc (.cells #[] e)) rd (fC β i (some (jb w (#[]:Array Value).size ek.sz))) (jb w (#[]:Array Value).size ek.sz) (r4 ek):=by
    cases ek with
    |ints k=>exact⟨rfl,by simp,trivial⟩
    |flts=>exact⟨rfl,by simp,trivial⟩
    |recs sz=>exact⟨rfl,by simp,trivial⟩
   refine fD.value (u:= .slice (some ⟨w.heap.size,0,none⟩) 0 0) (w':=w.alloc (.cells #[] e)) ?_ (PN h (en _) (sz:=ek.sz) dL) ?_ aL af
   ·simp only[execOp,bQ,vF,Instr.buildSlice,Sem.run_bind,gn hu,Result.andThen_ok,pe ya,Nat.zero_mul]
    rw[if_neg (by decide)]
    simp only[if_true,Sem.run_pure,Result.andThen_ok,he]
    simp[Instr.fill,newRow,run_newObj]
   ·simp only[aX]
    exact⟨_,0,rfl,Nat.le_refl _,.inl (by simp)⟩
end
end RV
namespace RV
open Go Go.RowKit
section
variable {N:Nat} {aU:eW} {aP:Mem} {R:bU} {σ σ':St} {a:Act} {w w':World} {rd rd':Mem} {β β':bU} {P:Program} {Γ:Env}
theorem aj1 {ty:TypeId} {op:Op} {n:Nat} {x y:bB} (ah:dV P ty op=some (.store n x y)):
 ∃t p q,op= .store t p q∧eh P p=some x∧qP P t q=some y∧hT P t=some n:=by
 cases op with
 |store t p q=>
  simp only[dV,wH]at ah
  split at ah
  ·rename_i h1 h2 aq
   simp only[Option.some.injEq,bJ.store.injEq]at ah
   obtain⟨rfl,rfl,rfl⟩:=ah
   exact⟨t,p,q,rfl,h1,h2,aq⟩
  ·cases ah
 |call c=>
  exfalso
  simp only[dV,vb]at ah
  split at ah
  ·simp only[uL]at ah
   repeat' (split at ah)
   all_goals first
    |(cases ah;done)
    |(obtain⟨v,_,h⟩:=map_some ah;cases h;done)
  ·obtain⟨v,_,h⟩:=map_some ah;cases h
  ·split at ah
   ·cases ah
   ·cases ah
  ·cases ah
 |makeFunc f x y=>
  exfalso
  cases f with
  |func f=>
   simp only[dV,va]at ah
   split at ah
   ·cases ah
   ·cases ah
  |_=>cases ah
 |_=>
  exfalso
  first
   |(cases ah;done)
   |(obtain⟨v,_,h⟩:=map_some ah;cases h;done)
   |(simp only[dV,uP,u6,u7,vl,u9,uW,uX,uY,uZ,u0,u1,wL,vm]at ah
     repeat' (split at ah)
     all_goals first
      |(cases ah;done)
      |(obtain⟨v,_,h⟩:=map_some ah;cases h;done))
theorem XM:∀{vs:List ai} {ds:List D},sb vs=some ds→vs=ds.map .d
 |[],ds,h=>by simp only[sb,Option.some.injEq]at h;subst h;rfl
 |v::vs,ds,h=>by
  simp only[sb]at h
  split at h
  ·rename_i d tW h1 h2
   simp only[Option.some.injEq]at h;subst h
   cases v with
   |d x=>simp only[ai.Hr,Option.some.injEq]at h1;subst h1;rw[XM h2];rfl
   |_=>cases h1
  ·cases h
theorem aii (h:bl N aU aP R σ a w rd β) {i:Nat} {r:dp} (hi:β i=some r) {e:Bool} {c c':BC} (aj:σ.az i=some ⟨false,e,c⟩) {off:Nat} {vs:List ai} {us:List Value}
 (aG:se c off vs=some c') (ar:b6 rd β vs us) (h1:∀u∈us,u.oneCell'=true):
 ∃w',(storeCells (cellAt r.cc (r.off+off)) us).run P w= .ok () w'∧bl N aU aP R (σ.eF i ⟨false,e,c'⟩) a w' rd β:=by
 cases c with
 |cells cs=>
  simp only[se]at aG
  split at aG
  ·rename_i aJ
   simp only[Option.some.injEq]at aG;subst aG
   have hlen:=yL ar
   obtain⟨b,aw,cA,_⟩:=h.box i r hi
   rw[aj]at aw;simp only[Option.some.injEq]at aw;subst aw
   obtain⟨w',bE,bM,bn,h5⟩:=h.write (P:=P) hi aj (vs:=us) (p:=off) (by have:=cA.1;omega) h1
   refine⟨w',bE,bM _ ⟨by have:=cA.1;simp;omega,?_⟩⟩
   refine cA.2.write aJ (cX.wD ar fun j aH=> ?_) (by rw[hlen]at h5;exact h5)
   rw[List.getElem?_eq_getElem aH]
   exact bn j _ (List.getElem?_eq_getElem aH)
  ·cases aG
 |_=>cases aG
theorem Z9 {α iF:Type} {f:α→iF} {xs:List α} {j:Nat} {x:α} (aH:j<xs.length):(xs.set j x).map f=(xs.map f).take j++[f x]++(xs.map f).drop (j+1):=by
 rw[List.set_eq_take_append_cons_drop,if_pos aH]
 simp[List.map_take,List.map_drop]
theorem aij {α:Type} {sz j off:Nat} {xs:List (List α)} {ds:List α} (hw:∀r∈xs,r.length=sz) (aH:j<xs.length) (bu:off+ds.length≤sz):
 (xs.set j ((xs.getD j []).take off++ds++(xs.getD j []).drop (off+ds.length))).flatten=xs.flatten.take (j*sz+off)++ds++xs.flatten.drop (j*sz+off+ds.length):=by
 have hlen:(xs.getD j []).length=sz:=by
  rw[List.getD_eq_getElem?_getD,List.getElem?_eq_getElem aH]
  exact hw _ (List.getElem_mem aH)
 have y4:xs=xs.take j++(xs.getD j [])::xs.drop (j+1):=by
  rw[List.getD_eq_getElem?_getD,List.getElem?_eq_getElem aH]
  simp
 have yc:(xs.take j).flatten.length=j*sz:=by
  rw[J3 (sz:=sz) (fun r ar=>hw r (List.mem_of_mem_take ar)),List.length_take,Nat.min_eq_left (Nat.le_of_lt aH)]
 rw[List.set_eq_take_append_cons_drop,if_pos aH]
 have hf:xs.flatten=(xs.take j).flatten++((xs.getD j [])++(xs.drop (j+1)).flatten):=by
  conv=>lhs;rw[y4]
  simp
 rw[hf,List.flatten_append,List.flatten_cons]
 generalize xs.getD j []=row at hlen⊢
 generalize (xs.take j).flatten=A at yc⊢
 generalize (xs.drop (j+1)).flatten=B
 rw[List.take_append,List.take_of_length_le (l:=A) (by omega),List.drop_append,List.drop_of_length_le (l:=A) (by omega),yc,
  show j*sz+off - j*sz=off by omega,show j*sz+off+ds.length - j*sz=off+ds.length by omega,List.take_append,List.drop_append]
 rw[show off - row.length=0 by omega,show off+ds.length - row.length=0 by omega]
 simp
theorem aik {c c':BC} {j off:Nat} {vs:List ai} (h:uU c j off vs=some c') (hw:c.wf):∃ds,vs=ds.map .d∧c.arr=true∧c'.arr=true∧c'.e0=c.e0∧c'.count=c.count∧c'.wf∧j*c.e0+off+ds.length≤c.elems.length∧
 c'.elems=c.elems.take (j*c.e0+off)++ds++c.elems.drop (j*c.e0+off+ds.length):=by
 unfold uU at h
 split at h
 ·split at h
  ·rename_i k xs eH n au
   obtain⟨rfl,rfl,aH⟩:=au
   simp only[Option.some.injEq]at h;subst h
   exact⟨[.int eH n],rfl,rfl,rfl,rfl,by simp[BC.count],trivial,by simp[BC.e0,BC.elems];omega,by simpa [BC.elems,BC.e0]using Z9 (f:=D.int eH) aH⟩
  ·cases h
 ·split at h
  ·rename_i xs n au
   obtain⟨rfl,aH⟩:=au
   simp only[Option.some.injEq]at h;subst h
   exact⟨[.flt n],rfl,rfl,rfl,rfl,by simp[BC.count],trivial,by simp[BC.e0,BC.elems];omega,by simpa [BC.elems,BC.e0]using Z9 (f:=D.flt) aH⟩
  ·cases h
 ·split at h
  ·rename_i ds hE
   split at h
   ·rename_i sz xs _ au
    obtain⟨aH,bu⟩:=au
    simp only[Option.some.injEq]at h;subst h
    have hlen:(xs.getD j []).length=sz:=by
     rw[List.getD_eq_getElem?_getD,List.getElem?_eq_getElem aH]
     exact hw _ (List.getElem_mem aH)
    refine⟨ds,XM hE,rfl,rfl,rfl,by simp[BC.count],fun r ar=> ?_,?_,aij hw aH bu⟩
    ·rcases List.mem_or_eq_of_mem_set ar with ar|rfl
     ·exact hw r ar
     ·simp only[List.length_append,List.length_take,List.length_drop,hlen];omega
    ·simp only[BC.elems,BC.e0]
     rw[J3 hw]
     have:(j+1)*sz≤xs.length*sz:=Nat.mul_le_mul_right _ aH
     rw[Nat.succ_mul]at this
     omega
   ·cases h
  ·cases h
 ·cases h
theorem ail {t:TypeId} {n b o:Nat} {u:Value} (aG:hT P t=some n) (hu:u.cells.size=n) (ar:(storeCells (cellAt b o) u.cells.toList).run P w= .ok () w'):
 (Instr.storeAt t (.pointer (some (cellAt b o))) u).run P w= .ok () w':=by
 simp only[Instr.storeAt,Sem.run_bind,Instr.sureAddr,storeVar,pe aG,Result.andThen_ok,Sem.run_pure,hu,ne_eq,not_true_eq_false,if_false]
 simpa using ar
theorem Gx (h:bl N aU aP R σ a w rd β) {o:Oper} {n:Nat} {x y:bB} (ah:dV P o.type o.op=some (.store n x y)) (aL:h8 N o.dst=true) {i:Nat} {e:Bool} {c c':BC} {K:St→Prop}
 (aj:σ.az i=some ⟨false,e,c⟩) (aJ:(σ.a3 y).cells.length=n) (aG:(σ.a3 y).cells.all ai.dY=true)
 (a1:(∃off,σ.a3 x= .box i off∧se c off (σ.a3 y).cells=some c')∨(∃j off,σ.a3 x= .ea i j off∧uU c j off (σ.a3 y).cells=some c'))
 (cj:K ((σ.eF i ⟨false,e,c'⟩).put o.dst .dt)):fD P N aU aP R o a w K:=by
 obtain⟨t,p,q,bQ,an2,sR,fG⟩:=aj1 ah
 have ER:=e4 h an2
 have gL:=O3 aG (yR h sR)
 have MA:=KI aG gL
 have an3:(a.eval q).cells.size=n:=by rw[←Array.length_toList,yL gL,aJ]
 have fin:∀{b o':Nat} {w':World},a.eval p= .pointer (some (cellAt b o'))→(storeCells (cellAt b o') (a.eval q).cells.toList).run P w= .ok () w'→bl N aU aP R (σ.eF i ⟨false,e,c'⟩) a w' rd β→fD P N aU aP R o a w K:=by
  intro b o' w' vF ar au
  refine fD.skip (w':=w') ?_ au aL cj
  simp only[execOp,bQ,vF,Sem.run_bind,ail fG an3 ar,Result.andThen_ok,Sem.run_pure]
 rcases a1 with ⟨off,SX,fj⟩|⟨j,off,SX,fj⟩
 ·rw[SX]at ER
  simp only[aX]at ER
  obtain⟨r,hi,vF⟩:=ER
  obtain⟨w',h1,h2⟩:=aii (P:=P) h hi aj fj gL MA
  exact fin vF h1 h2
 ·rw[SX]at ER
  simp only[aX]at ER
  obtain⟨r,hi,vF⟩:=ER
  obtain⟨b,aw,cA,zS⟩:=h.box i r hi
  rw[aj]at aw;simp only[Option.some.injEq]at aw;subst aw
  have a9:c.arr=true:=by
   cases c with
   |cells cs=>simp[uU]at fj
   |_=>rfl
  obtain⟨cy,aR,aW,aS⟩:=(fq.elems a9).1 cA
  obtain⟨ds,a4,_,c8,cW,eg,fA,JH,pV⟩:=aik fj aW
  have hlen:=yL gL
  rw[a4]at gL hlen
  have MF:=J7 aW a9
  obtain⟨w',bE,bM,bn,h5⟩:=h.write (P:=P) hi aj (vs:=(a.eval q).cells.toList) (p:=j*r.sz+off) (by rw[cy];simp at hlen⊢;omega) MA
  refine fin vF (by rw[Nat.add_assoc];exact bE) (bM _ ((fq.elems c8).2 ⟨by rw[cy,cW],by rw[eg,cW];exact aR,fA,?_⟩))
  rw[pV,←cy]
  refine aS.write (by rw[cy];exact JH) (cZ.iff.2 (cX.wD (β:=β) gL fun aq8 aH=> ?_)) (by simp at hlen;rw[show ds.length=(a.eval q).cells.toList.length by simp;omega];exact h5)
  rw[List.getElem?_eq_getElem aH]
  exact bn aq8 _ (List.getElem?_eq_getElem aH)
theorem alo {ty:TypeId} {op:Op} {ek:eG} {x y:bB} (ah:dV P ty op=some (.app ek x y)):
 ∃p q t u e,op= .call { callee:= .builtin .append,args:= #[p,q],argTypes:= #[t,u] }∧sL P t=some ek∧eh P p=some x∧eh P q=some y∧P.underlying t=some (.slice e)∧(∃e',P.underlying u=some (.slice e'))∧Ht P t=true:=by
 cases op with
 |call c=>
  cases c with
  |mk callee args dv=>
   simp only[dV,vb]at ah
   split at ah
   ·rename_i _ b
    simp only[uL]at ah
    split at ah
    ·split at ah
     ·obtain⟨v,_,h⟩:=map_some ah;cases h
     ·cases ah
    ·split at ah
     ·cases ah
     ·cases ah
    ·split at ah
     ·cases ah
     ·cases ah
    ·rename_i p q t u a9 Ij
     split at ah
     ·rename_i h1 h2 aq
      split at ah
      ·rename_i aG
       simp only[Option.some.injEq,bJ.app.injEq]at ah
       obtain⟨rfl,rfl,rfl⟩:=ah
       simp only[Bool.and_eq_true]at aG
       have tY:args= #[p,q]:=by rw[←Array.toList_inj];exact a9
       have HG:dv= #[t,u]:=by rw[←Array.toList_inj];exact Ij
       subst tY HG
       obtain⟨e',an4⟩:=W3 aG.1
       cases hu:P.underlying t with
       |none=>simp[sL,hu]at h1
       |some Wl=>
        cases Wl with
        |slice e=>exact⟨p,q,t,u,e,rfl,h1,h2,aq,hu,⟨e',an4⟩,aG.2⟩
        |_=>simp[sL,hu]at h1
      ·cases ah
     ·cases ah
    ·split at ah
     ·split at ah
      ·cases ah
      ·cases ah
     ·cases ah
    ·cases ah
   ·obtain⟨v,_,h⟩:=map_some ah;cases h
   ·split at ah
    ·cases ah
    ·cases ah
   ·cases ah
 |makeFunc f x y=>
  exfalso
  cases f with
  |func f=>
   simp only[dV,va]at ah
   split at ah
   ·cases ah
   ·cases ah
  |_=>cases ah
 |_=>
  exfalso
  first
   |(cases ah;done)
   |(obtain⟨v,_,h⟩:=map_some ah;cases h;done)
   |(simp only[dV,uP,u6,u7,wH,vl,u9,uW,uX,uY,uZ,u0,u1,wL,vm]at ah
     repeat' (split at ah)
     all_goals first
      |(cases ah;done)
      |(obtain⟨v,_,h⟩:=map_some ah;cases h;done))
end
end RV
namespace RV
open Go Go.RowKit
section
variable {N:Nat} {aU:eW} {aP:Mem} {R:bU} {σ σ':St} {a:Act} {w w':World} {rd rd':Mem} {β β':bU} {P:Program} {Γ:Env}
theorem XN {t u e e' ty:TypeId} (hu:P.underlying t=some (.slice e)) (kF:P.underlying u=some (.slice e')) {size:Nat} (aG:hT P e=some size) {A A':Option Addr} {n cap m c':Nat} {vs:List Value}
 (aC:(Builtin.firstCells size m (.slice A' m c')).run P w= .ok vs.toArray w) (aQ:n+m≤cap) (hw:(match A with|some x=>storeCells (x.add (n*size)) vs|none=>pure ()).run P w= .ok () w'):
 (Builtin.append_ #[t,u] ty #[.slice A n cap,.slice A' m c']).run P w= .ok (.slice A (n+m) cap) w':=by
 cases A with
 |none=>
  simp only[Sem.run_pure,Result.ok.injEq,true_and]at hw
  subst hw
  simp[Builtin.append_,gn hu,gn kF,pe aG,Builtin.lenOf,aQ,aC]
 |some x=>
  simp only at hw
  simp[Builtin.append_,gn hu,gn kF,pe aG,Builtin.lenOf,aQ,aC,hw]
theorem aim {t u e e' ty:TypeId} (hu:P.underlying t=some (.slice e)) (kF:P.underlying u=some (.slice e')) {i:TypeInfo} {z:Value} (hi:P.info? e=some i) (br:i.zero=some z) {A A':Option Addr} {n cap m c':Nat} {os vs:List Value}
 (bu:∀w',(∀x,w'.cell? x=w.cell? x)→(Builtin.firstCells i.size n (.slice A n cap)).run P w'= .ok os.toArray w') (aC:∀w',(∀x,w'.cell? x=w.cell? x)→(Builtin.firstCells i.size m (.slice A' m c')).run P w'= .ok vs.toArray w')
 (aQ:cap<n+m) (BU:n+m≤4294967296) (aw:i.bytes≤4096):
 (Builtin.append_ #[t,u] ty #[.slice A n cap,.slice A' m c']).run P w=
  .ok (.slice (some ⟨w.heap.size,0,none⟩) (n+m) (grownCap w (n+m) cap e)) (w.drew.alloc (.cells (os.toArray++vs.toArray++Builtin.zeroCells z.cells (grownCap w (n+m) cap e - (n+m))) e)):=by
 have h1:¬(n+m≤cap):=by omega
 have amB:¬(9223372036854775807<((n:Int)+(m:Int))):=by omega
 have h2:(n+m)*i.bytes≤4294967296*4096:=Nat.mul_le_mul BU aw
 have SY:=growslice_fits (need:=n+m) (old:=cap) (bytes:=i.bytes) (by omega) (by omega)
 have amC:¬(281474976710656<Builtin.nextslicecap (n+m) cap*i.bytes):=by omega
 have ji:=bu w.drew (fun _=>rfl)
 have Il:=aC w.drew (fun _=>rfl)
 simp[Builtin.append_,gn hu,gn kF,Go.sizeOf,typeInfo,zeroValue,hi,br,Builtin.lenOf,h1,amB,amC,Question.forced,ji,Il,newRow,grownCap]
 have aH:(os++vs).toArray=os.toArray++vs.toArray:=by simp
 rw[aH,Array.append_assoc]
theorem X4 {f e:Bool} {c:BC} {n:Nat} (h:pr (some ⟨f,e,c⟩)=some n):c.arr=true∧c.e0=n:=by
 cases c with
 |cells cs=>cases h
 |ints k xs=>simp only[pr,Option.some.injEq]at h;exact⟨rfl,h⟩
 |flts xs=>simp only[pr,Option.some.injEq]at h;exact⟨rfl,h⟩
 |recs sz xs=>simp only[pr,Option.some.injEq]at h;exact⟨rfl,h⟩
theorem aj2 {c:BC} (h:c.arr=true):∃d,c.part 0 c.count=some d∧d.yA=some c:=by
 cases c with
 |cells cs=>cases h
 |ints k xs=>exact⟨.ints k xs,by simp[BC.part,BC.count],rfl⟩
 |flts xs=>exact⟨.flts xs,by simp[BC.part,BC.count],rfl⟩
 |recs sz xs=>exact⟨.recs sz xs,by simp[BC.part,BC.count],rfl⟩
theorem X5 {i:Nat} {b:cr} (h:σ.az i=some b):σ.eF i b=σ:=by
 cases σ with
 |mk ag az=>
  unfold St.eF qX
  congr 1
  funext j
  by_cases aH:j=i
  ·simp only[aH,if_true];exact h.symm
  ·simp only[aH,if_false]
theorem aj3 (h:bl N aU aP R σ a w rd β) {o:Oper} {ek:eG} {x y:bB} (ah:dV P o.type o.op=some (.app ek x y)) (aL:h8 N o.dst=true) {i n:Nat} {c c':BC} {d:D} {K:St→Prop}
 (aj:σ.a3 x= .own i 0 n) (aw:σ.az i=some ⟨false,false,c⟩) (hy:toD σ (σ.a3 y)=some d) (au:Br c d=some c') (fG:pr (σ.az i)=some ek.sz) (aQ:n=c.count) (Lx:c'.count≤b4)
 (cj:K (((σ.forget i).eF i ⟨false,false,c'⟩).put o.dst (.own i 0 c'.count))):fD P N aU aP R o a w K:=by
 obtain⟨p,q,t,u,e,bQ,lp,a1,a7,hu,⟨e',kF⟩,cA⟩:=alo ah
 have LM:ts P e=some ek:=by simpa [sL,hu]using lp
 obtain⟨ya,HE⟩:=Gr LM
 obtain⟨fS,bE,bM,bn,h5,oM,bf,Wm,Wn,Wo,SZ⟩:=ajo au
 rw[aw]at fG
 obtain⟨_,fH⟩:=X4 fG
 have c6:=e4 h a1
 have gL:=e4 h a7
 rw[aj]at c6
 obtain⟨A',Du,vs,S0,jj,MG,ES,S1⟩:=Kx h hy bE gL
 obtain⟨d0,MH,amD⟩:=aj2 bM
 obtain⟨as1,ar7,os,Q9,S2,how,an5,an6⟩:=Kx h (v:= .own i 0 n) (d:=d0) (by simp only[toD,aw];rw[aQ];exact MH) amD c6
 simp only[aX]at c6
 obtain⟨A,cap,MI,tG,hA⟩:=c6
 rw[MI]at Q9
 simp only[Value.slice.injEq]at Q9
 obtain⟨rfl,_,rfl⟩:=Q9
 rw[h5,fH]at jj
 rw[fH,←aQ]at S2
 have Df:∀{v:Value} {w':World},(Builtin.append_ #[t,u] o.type #[.slice A n cap,.slice A' fS.count Du]).run P w= .ok v w'→(execOp a.eval o).run P w= .ok (.value v) w':=by
  intro v w' ar
  simp only[execOp,bQ,resolve,invoke,builtin,Sem.run_bind,Sem.run_pure,Result.andThen_ok,List.map_toArray,List.map_cons,List.map_nil,MI,S0,ar]
 have S3:∀w':World,(∀x,w'.cell? x=w.cell? x)→(Builtin.firstCells ek.sz fS.count (.slice A' fS.count Du)).run P w'= .ok vs.toArray w':=fun w' hw=>WY jj fun j x aH=>by
  obtain⟨aV,h1,h2⟩:=S1 j x aH
  exact⟨aV,h1,by rw[hw];exact h2⟩
 have an7:∀w':World,(∀x,w'.cell? x=w.cell? x)→(Builtin.firstCells ek.sz n (.slice A n cap)).run P w'= .ok os.toArray w':=fun w' hw=>WY S2 fun j x aH=>by
  obtain⟨aV,h1,h2⟩:=an6 j x aH
  exact⟨aV,h1,by rw[hw];exact h2⟩
 have C5:c'.count=n+fS.count:=by rw[Wm,aQ]
 by_cases ig:n+fS.count≤cap
 ·rcases hA with ⟨rfl,rfl⟩|⟨r,hi,hA,MJ⟩
  ·have h0:fS.count=0:=by omega
   have Im:vs=[]:=List.eq_nil_of_length_eq_zero (by rw[jj,h0,Nat.zero_mul])
   have dL:=Wo h0
   subst dL
   have vo:=XN (ty:=o.type) (w':=w) hu kF ya (A:=A) (n:=0) (cap:=0) (S3 w fun _=>rfl) ig (by subst Im;cases A<;>rfl)
   rw[h0]at vo
   refine fD.value (Df (by rw[h0];exact vo)) (σ':=(σ.forget i).eF i ⟨false,false,c'⟩) (rd':=rd) (β':=β) ?_ ?_ aL cj
   ·rw[Xr _ bM,X5 aw];exact h.forget i
   ·rw[C5,h0]
    simp only[aX]
    exact⟨A,0,rfl,Nat.le_refl _,.inl (by simp)⟩
  ·obtain⟨b,c4,HH,zS,gZ,_⟩:=h.box i r hi
   rw[aw]at c4;simp only[Option.some.injEq]at c4;subst c4
   obtain⟨cy,aR,aW,aS⟩:=(fq.elems bM).1 HH
   have alp:=(gZ rfl).2
   have MJ:=MJ alp
   have MF:=J7 aW bM
   have hlen:(n+fS.count)*ek.sz≤r.len:=by
    have:(n+fS.count)*ek.sz≤cap*ek.sz:=Nat.mul_le_mul_right _ ig
    rw[cy,fH]at MJ
    omega
   have alZ:∀v∈vs,v.oneCell'=true:=KI SZ (AA (β:=β) ES)
   obtain⟨w',cC,c9,fM,rZ⟩:=h.write (P:=P) hi aw (vs:=vs) (p:=n*ek.sz) (by rw[jj,←Nat.add_mul];exact hlen) alZ
   have vo:=XN (ty:=o.type) (w':=w') hu kF ya (A:=A) (n:=n) (cap:=cap) (S3 w fun _=>rfl) ig (by
    subst hA
    simp only[wv,Nat.zero_mul,Nat.add_zero]
    exact cC)
   refine fD.value (Df vo) (σ':=(σ.forget i).eF i ⟨false,false,c'⟩) (rd':=rd) (β':=β) ?_ ?_ aL cj
   ·rw[Xr _ bn]
    refine(c9 c' ((fq.elems bn).2 ⟨by rw[cy,oM],by rw[C5,oM,fH];exact hlen,Wn aW MG,?_⟩)).forget i
    rw[bf,cZ.append]
    have an8:c.elems.length=n*ek.sz:=by rw[MF,fH,aQ]
    refine⟨aS.mono (b7.refl _) fun k N1 ahm=>rZ k (by omega),?_⟩
    rw[an8]
    refine cZ.wD ES fun j v aH=>fM j v aH
   ·rw[C5]
    simp only[aX]
    exact⟨A,cap,rfl,ig,.inr ⟨r,hi,hA,fun _=>MJ⟩⟩
 ·cases sw:P.info? e with
  |none=>simp[Ht,AX,hu,sw]at cA
  |some inf=>
   cases br:inf.zero with
   |none=>simp[Ht,AX,hu,sw,br]at cA
   |some z=>
    simp only[Ht,AX,hu,sw,br,Bool.and_eq_true,decide_eq_true_eq,beq_iff_eq]at cA
    have Ra:=Xe sw LM
    have al0:n+fS.count≤4294967296:=by rw[←C5];exact Lx
    have vo:=aim (w:=w) (P:=P) (ty:=o.type) (A:=A) (A':=A') (n:=n) (cap:=cap) (m:=fS.count) (c':=Du) (os:=os) (vs:=vs) hu kF sw br (by rw[Ra];exact an7) (by rw[Ra];exact S3) (by omega) al0 cA.1
    have BV:=grownCap_ge w (n+fS.count) cap e
    generalize grownCap w (n+fS.count) cap e=Wp at vo BV
    have fV:(os.toArray++vs.toArray++Builtin.zeroCells z.cells (Wp - (n+fS.count))).size=Wp*ek.sz:=by
     rw[Array.size_append,Array.size_append,size_zeroCells,List.size_toArray,List.size_toArray,S2,jj,cA.2,Ra,←Nat.add_mul,←Nat.add_mul]
     congr 1;omega
    refine fD.value (Df vo) (PN (h.drew) (i:=i) (c:=c') (sz:=ek.sz) (xI σ i _) ?_) ?_ aL cj
    ·refine(fq.elems bn).2 ⟨by rw[oM,fH];rfl,?_,Wn how MG,?_⟩
     ·rw[C5,oM,fH]
      show _≤(os.toArray++vs.toArray++Builtin.zeroCells z.cells (Wp - (n+fS.count))).size
      rw[fV]
      exact Nat.mul_le_mul_right _ BV
     ·rw[bf]
      refine cZ.wD (CD an5 ES) fun j v aH=> ?_
      show (w.drew.alloc _).cell? (cellAt w.drew.heap.size (0+j))=some v
      rw[Nat.zero_add,Pp,←Array.getElem?_toList]
      simp only[Array.toList_append,List.append_assoc]
      rw[←List.append_assoc,List.getElem?_append_left]
      ·exact aH
      ·exact(List.getElem?_eq_some_iff.1 aH).1
    ·rw[C5]
     simp only[aX]
     refine⟨_,_,rfl,BV,.inr ⟨jb w.drew _ ek.sz,uK _ _ _,by simp only[jb,Nat.zero_mul,Nat.add_zero];rfl,fun _=> ?_⟩⟩
     simp only[jb]
     rw[fV];omega
end
end RV
namespace RV
open Go Go.RowKit
def jk (regs:List (Option dp)):bU:=fun i=>if b0≤i then (regs[i - b0]?).join else none
def MK (P:Program) (B:Mem) (f:Nat) (C:hg):Prop:=
 A8 P f∧∀(as:List ai) (cs:List BC),C.pre as cs→∀(w:World) (rd:Mem) (regs:List (Option dp)) (vs:Array Value),regs.length=cs.length→b7 B rd→b7 rd w.cell?→b6 rd (jk regs) as vs.toList→
  (∀(k:Nat) (c:BC) (r:dp),cs[k]? =some c→regs[k]? =some (some r)→fq w rd (jk regs) r c∧qY w r∧r.whole=false∧∀aV,r.has aV→rd aV=none)→
  (∀(k:Nat) (c:BC),cs[k]? =some c→regs[k]? =some none→c.isNil=true)→
  (∀j k iQ qE,j≠k→jk regs j=some iQ→jk regs k=some qE→∀aV,iQ.has aV→¬qE.has aV)→
  Calls P f vs w fun e w'=>∃v rd',e= .returned v∧iZ (jk regs) w w'∧b7 rd rd'∧b7 rd' w'.cell?∧(∀aV v,rd' aV=some v→aV.block<w.heap.size→rd aV=some v)∧bA rd' (C.res as cs) v∧
   (∀(k:Nat) (c:BC) (r:dp),(C.out as cs)[k]? =some c→regs[k]? =some (some r)→fq w' rd' (jk regs) r c)∧(∀(k:Nat) (c:BC),(C.out as cs)[k]? =some c→regs[k]? =some none→c.isNil=true)
def ae (P:Program) (B:Mem) (Γ:Env):Prop:=aa8 P B Γ∧∀f C,Γ.mt f=some C→MK P B f C
theorem ae.mono {P:Program} {B ahn:Mem} {Γ:Env} (ad:b7 B ahn) (h:ae P B Γ):ae P ahn Γ:=
 ⟨fun f C e=>⟨(h.1 f C e).1,fun ds a1 w rd vs aw=>(h.1 f C e).2 ds a1 w rd vs (ad.trans aw)⟩,
  fun f C e=>⟨(h.2 f C e).1,fun as cs a1 w rd regs vs aJ aw=>(h.2 f C e).2 as cs a1 w rd regs vs aJ (ad.trans aw)⟩⟩
theorem KJ {regs:List (Option dp)} {i:Nat} {r:dp} (h:jk regs i=some r):∃k,i=b0+k∧regs[k]? =some (some r):=by
 unfold jk at h
 split at h
 ·rename_i hi
  refine⟨i - b0,by omega,?_⟩
  cases e:regs[i - b0]? with
  |none=>rw[e]at h;cases h
  |some x=>rw[e]at h;simp only[Option.join_some]at h;rw[h]
 ·cases h
theorem Hc {regs:List (Option dp)} {k:Nat} {x:Option dp} (h:regs[k]? =some x):jk regs (b0+k)=x:=by
 unfold jk
 rw[if_pos (by omega),show b0+k - b0=k by omega,h]
 rfl
section
variable {N:Nat} {aU:eW} {aP:Mem} {R:bU} {σ σ':St} {a:Act} {w w':World} {rd rd':Mem} {β β':bU} {P:Program} {Γ:Env}
def QC (g:Nat→Nat) (β β':bU) (i:Nat):Prop:=∀r,β i=some r→∃r',β' (g i)=some r'∧r'.cc=r.cc∧r'.off=r.off∧r'.sz=r.sz∧r'.whole=false
mutual
theorem aac {g:Nat→Nat} :∀(v:ai) (u:Value),(∀i,v.has i=true→QC g β β' i)→aX rd β v u→aX rd β' (v.dG g) u
 | .d x,u,_,H=>by simpa only[ai.dG,aX]using H
 | .agg cs,u,dW,H=>by
   simp only[ai.dG,aX]at*
   obtain⟨vs,e,H⟩:=H
   exact⟨vs,e,GM cs _ (fun i hi=>dW i (by simpa only[ai.has]using hi)) H⟩
 | .box i o,u,dW,H=>by
   simp only[ai.dG,aX]at*
   obtain⟨r,h1,h2⟩:=H
   obtain⟨r',bE,bM,bn,_⟩:=dW i (by simp[ai.has]) r h1
   exact⟨r',bE,by rw[bM,bn];exact h2⟩
 | .own i lo n,u,dW,H=>by
   simp only[ai.dG,aX]at*
   obtain⟨A,cap,h1,h2,aq⟩:=H
   refine⟨A,cap,h1,h2,aq.imp id fun⟨r,dw,eK,_⟩=> ?_⟩
   obtain⟨r',bE,bM,bn,h5,oM⟩:=dW i (by simp[ai.has]) r dw
   exact⟨r',bE,by rw[bM,bn,h5];exact eK,fun e=>by rw[oM]at e;cases e⟩
 | .ea i j o,u,dW,H=>by
   simp only[ai.dG,aX]at*
   obtain⟨r,h1,h2⟩:=H
   obtain⟨r',bE,bM,bn,h5,_⟩:=dW i (by simp[ai.has]) r h1
   exact⟨r',bE,by rw[bM,bn,h5];exact h2⟩
 | .dr f x y,u,dW,H=>by
   simp only[ai.dG,aX]at*
   obtain⟨gi,vc,e,H1,fk⟩:=H
   exact⟨gi,vc,e,GM x _ (fun i hi=>dW i (by simp[ai.has,hi])) H1,GM y _ (fun i hi=>dW i (by simp[ai.has,hi])) fk⟩
 | .dF _,u,_,H=>by simpa only[ai.dG,aX]using H
 | .dt,u,_,H=>by simpa only[ai.dG,aX]using H
 | .any,u,_,_=>by simp only[ai.dG,aX]
theorem GM {g:Nat→Nat} :∀(vs:List ai) (us:List Value),(∀i,ai.cY i vs=true→QC g β β' i)→b6 rd β vs us→b6 rd β' (ai.ga g vs) us
 |[],us,_,H=>by simpa only[ai.ga,b6]using H
 |v::vs,us,dW,H=>by
  simp only[ai.ga,b6]at*
  obtain⟨u,qm,e,h1,h2⟩:=H
  exact⟨u,qm,e,aac v u (fun i hi=>dW i (by simp[ai.cY,hi])) h1,GM vs qm (fun i hi=>dW i (by simp[ai.cY,hi])) h2⟩
end
mutual
theorem aad:∀(v:ai) (i:Nat),v.has i=true→i∈v.ids
 | .d _,_,h=>by simp[ai.has]at h
 | .agg cs,i,h=>by simpa only[ai.ids]using AP cs i (by simpa only[ai.has]using h)
 | .box j o,i,h=>by simp only[ai.has,beq_iff_eq]at h;simp[ai.ids,h]
 | .own j o n,i,h=>by simp only[ai.has,beq_iff_eq]at h;simp[ai.ids,h]
 | .ea j o n,i,h=>by simp only[ai.has,beq_iff_eq]at h;simp[ai.ids,h]
 | .dr f x y,i,h=>by
   simp only[ai.has,Bool.or_eq_true]at h
   simp only[ai.ids,List.mem_append]
   exact h.imp (AP x i) (AP y i)
 | .dF _,_,h=>by simp[ai.has]at h
 | .dt,_,h=>by simp[ai.has]at h
 | .any,_,h=>by simp[ai.has]at h
theorem AP:∀(vs:List ai) (i:Nat),ai.cY i vs=true→i∈ai.ic vs
 |[],_,h=>by simp[ai.cY]at h
 |v::vs,i,h=>by
  simp only[ai.cY,Bool.or_eq_true]at h
  simp only[ai.ic,List.mem_append]
  exact h.imp (aad v i) (AP vs i)
end
theorem Gp:∀{l:List Nat} {i:Nat},i∈l→i∈distinct l
 |j::r,i,h=>by
  simp only[distinct,List.mem_cons,List.mem_filter]
  by_cases e:i=j
  ·exact .inl e
  ·rcases List.mem_cons.1 h with h|h
   ·exact absurd h e
   ·exact .inr ⟨Gp h,by simpa using e⟩
theorem Oi:∀(l:List Nat),(distinct l).Nodup
 |[]=>List.nodup_nil
 |i::r=>by
  simp only[distinct]
  refine List.nodup_cons.2 ⟨by simp,(Oi r).filter _⟩
theorem Ox:∀{l:List Nat} {i:Nat},i∈l→l[placeOf l i]? =some i
 |j::r,i,h=>by
  simp only[placeOf]
  split
  ·rename_i e;subst e;rfl
  ·rename_i e
   rcases List.mem_cons.1 h with h|h
   ·exact absurd h.symm e
   ·simpa using Ox h
theorem J4 {p:Nat→Bool} :∀{is:List Nat} {cs:List BC},contents σ p is=some cs→cs.length=is.length∧(∀c∈cs,c.tidy p=true)∧∀(k i:Nat),is[k]? =some i→∃e c,σ.az i=some ⟨false,e,c⟩∧cs[k]? =some c
 |[],cs,h=>by simp only[contents,Option.some.injEq]at h;subst h;simp
 |i::r,cs,h=>by
  simp only[contents]at h
  split at h
  ·rename_i e c cs' aw au
   split at h
   ·rename_i a1
    simp only[Option.some.injEq]at h;subst h
    obtain⟨h1,h2,aq⟩:=J4 au
    refine⟨by simp[h1],?_,fun k j aH=> ?_⟩
    ·intro c' cT
     rcases List.mem_cons.1 cT with rfl|cT
     ·exact a1
     ·exact h2 c' cT
    ·cases k with
     |zero=>simp only[List.getElem?_cons_zero,Option.some.injEq]at aH;subst aH;exact⟨e,c,aw,rfl⟩
     |succ k=>simpa using aq k j (by simpa using aH)
   ·cases h
  ·cases h
mutual
theorem YJ {p:Nat→Bool} :∀(v:ai),v.tidy p=true→∀i,v.has i=true→p i=true
 | .d _,_,_,h=>by simp[ai.has]at h
 | .agg cs,ah,i,h=>Ky cs (by simpa only[ai.tidy]using ah) i (by simpa only[ai.has]using h)
 | .box j o,ah,i,h=>by
   simp only[ai.has,beq_iff_eq]at h;subst h
   simpa only[ai.tidy]using ah
 | .own _ _ _,ah,_,_=>by simp[ai.tidy]at ah
 | .ea _ _ _,ah,_,_=>by simp[ai.tidy]at ah
 | .dr f x y,ah,i,h=>by
   simp only[ai.tidy,Bool.and_eq_true]at ah
   simp only[ai.has,Bool.or_eq_true]at h
   rcases h with h|h
   ·exact Ky x ah.1 i h
   ·exact Ky y ah.2 i h
 | .dF _,_,_,h=>by simp[ai.has]at h
 | .dt,_,_,h=>by simp[ai.has]at h
 | .any,_,_,h=>by simp[ai.has]at h
theorem Ky {p:Nat→Bool} :∀(vs:List ai),ai.ht p vs=true→∀i,ai.cY i vs=true→p i=true
 |[],_,_,h=>by simp[ai.cY]at h
 |v::vs,ah,i,h=>by
  simp only[ai.ht,Bool.and_eq_true]at ah
  simp only[ai.cY,Bool.or_eq_true]at h
  rcases h with h|h
  ·exact YJ v ah.1 i h
  ·exact Ky vs ah.2 i h
end
def Dv (g:Nat→Nat) (β β':bU) (i:Nat):Prop:=∀r,β i=some r→∃r',β' (g i)=some r'∧r'.cc=r.cc∧r'.off=r.off
mutual
theorem YK {g:Nat→Nat} {p:Nat→Bool} (bh:∀i,p i=true→Dv g β β' i):∀(v:ai) (u:Value),v.tidy p=true→aX rd β v u→aX rd β' (v.dG g) u
 | .d x,u,_,H=>by simpa only[ai.dG,aX]using H
 | .agg cs,u,ah,H=>by
   simp only[ai.dG,aX]at*
   obtain⟨vs,e,H⟩:=H
   exact⟨vs,e,Kz bh cs _ (by simpa only[ai.tidy]using ah) H⟩
 | .box i o,u,ah,H=>by
   simp only[ai.dG,aX]at*
   obtain⟨r,h1,h2⟩:=H
   obtain⟨r',bE,bM,bn⟩:=bh i (by simpa only[ai.tidy]using ah) r h1
   exact⟨r',bE,by rw[bM,bn];exact h2⟩
 | .own _ _ _,_,ah,_=>by simp[ai.tidy]at ah
 | .ea _ _ _,_,ah,_=>by simp[ai.tidy]at ah
 | .dr f x y,u,ah,H=>by
   simp only[ai.tidy,Bool.and_eq_true]at ah
   simp only[ai.dG,aX]at*
   obtain⟨gi,vc,e,H1,fk⟩:=H
   exact⟨gi,vc,e,Kz bh x _ ah.1 H1,Kz bh y _ ah.2 fk⟩
 | .dF _,u,_,H=>by simpa only[ai.dG,aX]using H
 | .dt,u,_,H=>by simpa only[ai.dG,aX]using H
 | .any,u,_,_=>by simp only[ai.dG,aX]
theorem Kz {g:Nat→Nat} {p:Nat→Bool} (bh:∀i,p i=true→Dv g β β' i):∀(vs:List ai) (us:List Value),ai.ht p vs=true→b6 rd β vs us→b6 rd β' (ai.ga g vs) us
 |[],us,_,H=>by simpa only[ai.ga,b6]using H
 |v::vs,us,ah,H=>by
  simp only[ai.ht,Bool.and_eq_true]at ah
  simp only[ai.ga,b6]at*
  obtain⟨u,qm,e,h1,h2⟩:=H
  exact⟨u,qm,e,YK bh v u ah.1 h1,Kz bh vs qm ah.2 h2⟩
end
theorem Xs (g:Nat→Nat):∀(vs:List ai),(ai.ga g vs).length=vs.length
 |[]=>rfl
 |v::vs=>by simp[ai.ga,Xs g vs]
theorem XO {g:Nat→Nat} {p:Nat→Bool} (bh:∀i,p i=true→Dv g β β' i) {b:Nat} :∀(cs:List ai) (o:Nat),ai.ht p cs=true→cX w rd β b o cs→cX w rd β' b o (ai.ga g cs)
 |[],_,_,_=>trivial
 |v::vs,o,ah,⟨⟨u,e,H⟩,fk⟩=>by
  simp only[ai.ht,Bool.and_eq_true]at ah
  exact⟨⟨u,e,YK bh v u ah.1 H⟩,XO bh vs (o+1) ah.2 fk⟩
theorem X6 {g:Nat→Nat} {p:Nat→Bool} (bh:∀i,p i=true→Dv g β β' i) {r r':dp} {c:BC} (a1:c.tidy p=true) (aw:r'.cc=r.cc) (bu:r'.off=r.off) (aJ:r'.len=r.len) (aG:r'.sz=r.sz) (h:fq w rd β r c):fq w rd β' r' (c.dG g):=by
 cases r with|mk b o l s as2=>
 cases r' with|mk g2 o' xn dM asg=>
 simp only at aw bu aJ aG
 subst aw bu aJ aG
 cases c with
 |cells cs=>exact⟨by rw[Xs];exact h.1,XO bh cs _ a1 h.2⟩
 |ints k xs=>exact h
 |flts xs=>exact h
 |recs sz xs=>exact h
theorem X7 (g:Nat→Nat) (c:BC):(c.dG g).isNil=c.isNil:=by cases c<;>rfl
theorem Oy:∀{is:List Nat} {cs:List BC} {σ:St},is.Nodup→cs.length=is.length→(hQ σ is cs).ag=σ.ag∧(∀j,j∉is→(hQ σ is cs).az j=σ.az j)∧
 ∀(k i:Nat) c b,is[k]? =some i→cs[k]? =some c→σ.az i=some b→(hQ σ is cs).az i=some ⟨b.cE,b.ext,c⟩
 |[],cs,σ,_,_=>by cases cs<;>simp[hQ]
 |i::r,[],σ,_,h=>by simp at h
 |i::r,c::cs,σ,aQ,aJ=>by
  obtain⟨hi,ar⟩:=List.nodup_cons.1 aQ
  have ME:cs.length=r.length:=by simpa using aJ
  simp only[hQ]
  cases aw:σ.az i with
  |none=>
   obtain⟨h1,h2,aq⟩:=Oy (σ:=σ) ar ME
   refine⟨h1,fun j aH=>h2 j (fun h=>aH (by simp[h])),fun k j c' b af au c4=> ?_⟩
   cases k with
   |zero=>simp only[List.getElem?_cons_zero,Option.some.injEq]at af;subst af;rw[aw]at c4;cases c4
   |succ k=>exact aq k j c' b (by simpa using af) (by simpa using au) c4
  |some Cr=>
   simp only
   obtain⟨h1,h2,aq⟩:=Oy (σ:=σ.eF i ⟨Cr.cE,Cr.ext,c⟩) ar ME
   refine⟨h1,fun j aH=> ?_,fun k j c' b af au c4=> ?_⟩
   ·rw[h2 j (fun h=>aH (by simp[h]))]
    simp only[St.eF,qX]
    rw[if_neg (fun h=>aH (by simp[h]))]
   ·cases k with
    |zero=>
     simp only[List.getElem?_cons_zero,Option.some.injEq]at af au
     subst af au
     rw[h2 _ hi,aw]at*
     simp only[Option.some.injEq]at c4;subst c4
     simp[St.eF,qX]
    |succ k=>
     have cn:r[k]? =some j:=by simpa using af
     have fy:j≠i:=fun e=>hi (e▸List.mem_of_getElem? cn)
     exact aq k j c' b cn (by simpa using au) (by simp only[St.eF,qX];rw[if_neg fy];exact c4)
end
end RV
namespace RV
open Go Go.RowKit
def dp.part (r:dp):dp:= { r with whole:=false }
theorem dp.AQ {r:dp} {aV:Addr} (h:r.part.has aV):r.has aV:=by
 refine⟨h.1,.inr ?_⟩
 rcases h.2 with h|h
 ·cases h
 ·exact h
section
variable {N:Nat} {aU:eW} {aP:Mem} {R E:bU} {σ σ':St} {a:Act} {w w':World} {rd rd':Mem} {β β':bU} {P:Program} {Γ:Env}
theorem ajp (af:iZ E w w') {b o:Nat} (aw:b<w.heap.size) (g8:∀j r,E j=some r→¬r.has (cellAt b o)):w'.cell? (cellAt b o)=w.cell? (cellAt b o):=by
 rcases af.block b aw with e|⟨c,t,cE,c',h1,h2,aq,aE⟩
 ·exact uH e
 ·simp only[World.cell?,cellAt,h1,h2]
  simpa using aE o g8
theorem ajq {r:dp} (a1:qY w r) (af:iZ E w w'):qY w' r:=by
 have bw:=a1.lt
 obtain⟨arr,e,cE,h0,h1,h2,aq⟩:=a1
 rcases af.block r.cc bw with e'|⟨c,t,anU,c',bE,bM,bn,_⟩
 ·exact⟨arr,e,cE,e'.trans h0,h1,h2,aq⟩
 ·rw[h0]at bE
  simp only[Option.some.injEq,Obj.cells.injEq]at bE
  obtain⟨rfl,rfl,rfl⟩:=bE
  exact⟨c',e,cE,bM,by rw[bn];exact h1,h2,fun hw=>⟨(aq hw).1,by rw[bn];exact(aq hw).2.1,(aq hw).2.2⟩⟩
def k5 (β:bU) (is:List Nat):List (Option dp):=is.map fun i=>(β i).map dp.part
theorem Kd {is:List Nat} {j:Nat} {r':dp} (h:jk (k5 β is) j=some r'):∃(k i:Nat) (r:dp),j=b0+k∧is[k]? =some i∧β i=some r∧r'=r.part:=by
 obtain⟨k,rfl,af⟩:=KJ h
 simp only[k5,List.getElem?_map]at af
 cases hi:is[k]? with
 |none=>rw[hi]at af;cases af
 |some i=>
  rw[hi]at af
  simp only[Option.map_some,Option.some.injEq]at af
  cases ar:β i with
  |none=>rw[ar]at af;cases af
  |some r=>rw[ar]at af;simp only[Option.map_some,Option.some.injEq]at af;exact⟨k,i,r,rfl,hi,ar,af.symm⟩
theorem akE {is:List Nat} {i:Nat} (h:i∈is):∃k:Nat,is[k]? =some i:=by
 obtain⟨k,af,e⟩:=List.mem_iff_getElem.1 h
 exact⟨k,by rw[List.getElem?_eq_getElem af,e]⟩
theorem aiI (h:bl N aU aP R σ a w rd β) {is:List Nat} (aQ:is.Nodup) {cs cs':List BC} {q:Nat→Bool} (fH:contents σ q is=some cs) (aJ:cs'.length=cs.length)
 (af:iZ (jk (k5 β is)) w w') (hle:b7 rd rd') (hw:b7 rd' w'.cell?) (hold:∀aV v,rd' aV=some v→aV.block<w.heap.size→rd aV=some v)
 (an9:∀(k i:Nat) (c:BC) (r:dp),cs'[k]? =some c→is[k]? =some i→β i=some r→fq w' rd' β r c) (aoa:∀(k:Nat) (c:BC),cs'[k]? =some c→(k5 β is)[k]? =some none→c.isNil=true):
 bl N aU aP R (hQ σ is cs') a w' rd' β:=by
 obtain⟨bR,cN,fL⟩:=J4 fH
 obtain⟨s1,s2,qF⟩:=Oy (σ:=σ) aQ (aJ.trans bR)
 have Ly:∀{i:Nat},i∈is→∃(k:Nat) (e:Bool) (c c':BC),is[k]? =some i∧σ.az i=some ⟨false,e,c⟩∧cs'[k]? =some c'∧(hQ σ is cs').az i=some ⟨false,e,c'⟩:=by
  intro i hi
  obtain⟨k,cn⟩:=akE hi
  obtain⟨e,c,aw,au⟩:=fL k i cn
  have bw:k<cs'.length:=by rw[aJ];exact(List.getElem?_eq_some_iff.1 au).1
  exact⟨k,e,c,cs'[k],cn,aw,List.getElem?_eq_getElem bw,qF k i _ _ cn (List.getElem?_eq_getElem bw) aw⟩
 have Qj:∀{aV:Addr} {j:Nat} {r':dp},jk (k5 β is) j=some r'→r'.has aV→∃i r,i∈is∧β i=some r∧r.has aV:=by
  intro aV j r' aH eC
  obtain⟨k,i,r,_,hi,ar,rfl⟩:=Kd aH
  exact⟨i,r,List.mem_of_getElem? hi,ar,dp.AQ eC⟩
 exact {
  size:=h.size
  defers:=h.defers
  cV:=by
   refine⟨af.os.trans h.cV.os,af.tape.trans h.cV.tape,af.output.trans h.cV.output,Nat.le_trans h.cV.size af.size,fun b aw=>(h.cV.block b aw).trans ?_⟩
   rcases af.block b (Nat.lt_of_lt_of_le aw h.cV.size)with e|⟨c,t,cE,c',h1,h2,aq,aE⟩
   ·exact .inl e
   ·refine .inr ⟨c,t,cE,c',h1,h2,aq,fun o g8=>aE o fun j r' aH eC=> ?_⟩
    obtain⟨i,r,hi,ar,fz⟩:=Qj aH eC
    obtain⟨k,e,e8,ash,_,ix,_,_⟩:=Ly hi
    obtain⟨Cr,BW,_,_,gZ,fi⟩:=h.box i r ar
    rw[ix]at BW;simp only[Option.some.injEq]at BW;subst BW
    cases e with
    |false=>have:=(gZ rfl).1;have:=fz.1;simp only[cellAt]at this;omega
    |true=>exact g8 i r (fi rfl).1 fz
  dy:=fun b o aw=>by
   obtain⟨bE,bM⟩:=h.dy b o aw
   have bw:=(Array.getElem?_eq_some_iff.1 bM).1
   refine⟨bE.to (fun aV v e af=> .inl (hold aV v e (by omega))) (fun i r hi e=>⟨i,r,hi,e⟩),?_⟩
   rcases af.block b bw with e|⟨c,t,cE,c',h1,h2,aq,aE⟩
   ·rw[e];exact bM
   ·rw[bM]at h1
    rcases bE with bE|⟨bE,_⟩
    ·exact absurd (Option.some.inj h1) (bE _ _ _)
    ·have e:c'=c:=Array.ext_getElem? fun o=>aE o fun j r' aH eC=>by
      obtain⟨i,r,hi,ar,fz⟩:=Qj aH eC
      exact bE i r ar fz.1.symm
     rw[h2,e,←h1]
  c3:=hw
  dK:=h.dK.trans hle
  aP:=fun aV v e bw=>h.aP aV v (hold aV v e (Nat.lt_of_lt_of_le bw h.cV.size)) bw
  eX:=fun i r b hi aw br aV fz=>by
   obtain⟨dc,iy,_,a1,_⟩:=h.box i r hi
   have BT:dc.cE=false:=by
    by_cases yd:i∈is
    ·obtain⟨k,e,c,c',_,ix,_,c4⟩:=Ly yd
     rw[ix]at iy;simp only[Option.some.injEq]at iy;subst iy;rfl
    ·rw[s2 i yd,iy]at aw
     simp only[Option.some.injEq]at aw;subst aw;exact br
   cases e:rd' aV with
   |none=>rfl
   |some v=>
    have:=hold aV v e (by rw[fz.1];exact a1.lt)
    rw[h.eX i r dc hi iy BT aV fz]at this
    cases this
  eY:=fun t=>by rw[s1];exact aX.mono hle _ _ (h.eY t)
  box:=fun i r hi=>by
   obtain⟨dc,iy,cA,a1,gZ,fi⟩:=h.box i r hi
   have tZ:=ajq a1 af
   by_cases yd:i∈is
   ·obtain⟨k,e,c,c',qp,ix,cT,c4⟩:=Ly yd
    rw[ix]at iy;simp only[Option.some.injEq]at iy;subst iy
    exact⟨⟨false,e,c'⟩,c4,an9 k i c' r cT qp hi,tZ,gZ,fi⟩
   ·refine⟨dc,by rw[s2 i yd];exact iy,?_,tZ,gZ,fi⟩
    refine cA.mono hle (fun o h1 h2=>ajp af a1.lt fun j r' aH eC=> ?_) (fun cs _ v _ u H=>aX.mono hle v u H)
    obtain⟨pU,bX,hi',pF,fz⟩:=Qj aH eC
    exact h.eR i pU r bX (fun e=>yd (e▸hi')) hi pF _ ⟨rfl,.inr ⟨h1,h2⟩⟩ fz
  eL:=fun i b aw hi=>by
   by_cases yd:i∈is
   ·obtain⟨k,e,c,c',qp,ix,cT,c4⟩:=Ly yd
    rw[c4]at aw
    simp only[Option.some.injEq]at aw;subst aw
    have kB:(k5 β is)[k]? =some none:=by simp[k5,qp,hi]
    exact⟨(h.eL i _ ix hi).1,aoa k c' cT kB⟩
   ·rw[s2 i yd]at aw
    exact h.eL i b aw hi
  eR:=h.eR }
theorem OM {f:Nat} {C:hg} (cA:MK P aP f C) (h:bl N aU aP R σ a w rd β) {o:Oper} (aL:h8 N o.dst=true) {vs:List ai} {us:Array Value} (hu:b6 rd β vs us.toList)
 (ar:(execOp a.eval o).run P w= .ok (.enter f us) w) {K:St→Prop} {is:List Nat} (hnd:is.Nodup) (Dw:∀i,ai.cY i vs=true→i∈is) (af:wG C o.dst σ K vs is):∀(next:Act→World→Prop) (Q:Exit→Act→World→Prop),(∀σ' ct w' rd' β',K σ'→bl N aU aP R σ' ct w' rd' β'→next ct w')→o.wp P a w next Q:=by
 intro next Q aQ
 unfold wG at af
 split at af
 ·rename_i cs fH
  simp only at af
  obtain⟨a1,hlen,kH,af⟩:=af
  obtain⟨bR,cN,fL⟩:=J4 fH
  have al1:∀i,is.contains i=true→Dv (fun i=>b0+placeOf is i) β (jk (k5 β is)) i:=by
   intro i hi r BX
   have zK:=Ox (l:=is) (i:=i) (by simpa using hi)
   exact⟨r.part,Hc (by simp[k5,zK,BX]),rfl,rfl⟩
  have alq:∀i,ai.cY i vs=true→QC (fun i=>b0+placeOf is i) β (jk (k5 β is)) i:=by
   intro i hi r BX
   have zK:=Ox (Dw i hi)
   exact⟨r.part,Hc (by simp[k5,zK,BX]),rfl,rfl,rfl,rfl⟩
  have al2:∀i,xX is.length i=true→Dv (fun i=>is.getD (i - b0) 0) (jk (k5 β is)) β i:=by
   intro i hi r' BX
   obtain⟨k,pU,r,rfl,cn,eC,rfl⟩:=Kd BX
   refine⟨r,?_,rfl,rfl⟩
   show β (is.getD (b0+k - b0) 0)=some r
   rw[show b0+k - b0=k by omega,List.getD_eq_getElem?_getD,cn]
   exact eC
  have fQ:=GM vs us.toList alq hu
  unfold Oper.wp
  rw[ar,Oper.upon_enter]
  refine(cA.2 _ _ a1 w rd (k5 β is) us (by simp[k5,bR]) h.dK h.c3 fQ ?_ ?_ ?_).mono ?_
  ·intro k c r au kB
   simp only[List.getElem?_map]at au
   cases dL:cs[k]? with
   |none=>rw[dL]at au;cases au
   |some e8=>
    rw[dL]at au
    simp only[Option.map_some,Option.some.injEq]at au
    subst au
    have bw:k<is.length:=by rw[←bR];exact(List.getElem?_eq_some_iff.1 dL).1
    obtain⟨e,c',aw,cT⟩:=fL k is[k] (List.getElem?_eq_getElem bw)
    rw[dL]at cT;simp only[Option.some.injEq]at cT;subst cT
    simp only[k5,List.getElem?_map,List.getElem?_eq_getElem bw,Option.map_some,Option.some.injEq]at kB
    cases c4:β is[k]with
    |none=>rw[c4]at kB;cases kB
    |some hI=>
     rw[c4]at kB
     simp only[Option.map_some,Option.some.injEq]at kB
     subst kB
     obtain⟨Cr,BW,HH,zS,_⟩:=h.box _ hI c4
     rw[aw]at BW;simp only[Option.some.injEq]at BW;subst BW
     refine⟨X6 al1 (cN e8 (List.mem_of_getElem? dL)) rfl rfl rfl rfl HH,?_,rfl,fun aV fz=>h.eX _ hI _ c4 aw rfl aV (dp.AQ fz)⟩
     obtain⟨arr,t,cE,dw,eK,e9,_⟩:=zS
     exact⟨arr,t,cE,dw,eK,e9,fun e=>by cases e⟩
  ·intro k c au kB
   simp only[List.getElem?_map]at au
   cases dL:cs[k]? with
   |none=>rw[dL]at au;cases au
   |some e8=>
    rw[dL]at au
    simp only[Option.map_some,Option.some.injEq]at au
    subst au
    have bw:k<is.length:=by rw[←bR];exact(List.getElem?_eq_some_iff.1 dL).1
    obtain⟨e,c',aw,cT⟩:=fL k is[k] (List.getElem?_eq_getElem bw)
    rw[dL]at cT;simp only[Option.some.injEq]at cT;subst cT
    simp only[k5,List.getElem?_map,List.getElem?_eq_getElem bw,Option.map_some,Option.some.injEq]at kB
    rw[X7]
    cases c4:β is[k]with
    |none=>exact(h.eL _ _ aw c4).2
    |some hI=>rw[c4]at kB;cases kB
  ·intro j k iQ qE sM aH cn aV amE amF
   obtain⟨bE,i1,bX,a4,h1,SU,rfl⟩:=Kd aH
   obtain⟨bM,i2,ch,bc,h2,SV,rfl⟩:=Kd cn
   refine h.eR i1 i2 bX ch (fun e=>sM ?_) SU SV aV (dp.AQ amE) (dp.AQ amF)
   subst e
   have gZ:=(List.getElem?_eq_some_iff.1 h1).1
   have fi:=(List.getElem?_eq_some_iff.1 h2).1
   have:bE=bM:=(List.getElem_inj (h₀:=gZ) (h₁:=fi) hnd).1 (by rw[(List.getElem?_eq_some_iff.1 h1).2,(List.getElem?_eq_some_iff.1 h2).2])
   omega
  ·rintro e b8 ⟨v,gb,rfl,dw,eK,e9,oN,Al,Am,Ct⟩
   have au:=aiI h hnd fH (cs':=(C.out (ai.ga (fun i=>b0+placeOf is i) vs) (cs.map (BC.dG fun i=>b0+placeOf is i))).map (BC.dG fun i=>is.getD (i - b0) 0)) (by rw[List.length_map,hlen,bR]) dw eK e9 oN (fun k i c r cT qp BX=> ?_) (fun k c cT kB=> ?_)
   ·exact aQ _ _ _ _ _ af (au.put aL (tq Al))
   ·simp only[List.getElem?_map]at cT
    simp only[List.all_eq_true]at kH
    cases dL:(C.out (ai.ga (fun i=>b0+placeOf is i) vs) (cs.map (BC.dG fun i=>b0+placeOf is i)))[k]? with
    |none=>rw[dL]at cT;cases cT
    |some e8=>
     rw[dL]at cT
     simp only[Option.map_some,Option.some.injEq]at cT
     subst cT
     exact X6 (r:=r.part) al2 (kH e8 (List.mem_of_getElem? dL)) rfl rfl rfl rfl (Am k e8 r.part dL (by simp[k5,qp,BX]))
   ·simp only[List.getElem?_map]at cT
    cases dL:(C.out (ai.ga (fun i=>b0+placeOf is i) vs) (cs.map (BC.dG fun i=>b0+placeOf is i)))[k]? with
    |none=>rw[dL]at cT;cases cT
    |some e8=>
     rw[dL]at cT
     simp only[Option.map_some,Option.some.injEq]at cT
     subst cT
     rw[X7]
     exact Ct k e8 dL kB
 ·exact af.elim
theorem CK (σ:St) (is:List Nat):(reach σ is).Nodup∧∀i∈is,i∈reach σ is:=
 ⟨Oi _,fun i hi=>Gp (List.mem_append.2 (.inl hi))⟩
end
end RV
namespace RV
open Go Go.RowKit
section
variable {N:Nat} {aU:eW} {aP:Mem} {R:bU} {σ σ':St} {a:Act} {w w':World} {rd rd':Mem} {β β':bU} {P:Program} {Γ:Env}
theorem YL {α iF:Type} {f:α→iF} {lo n:Nat} {xs aB:List α} :(over lo n xs aB).map f=(xs.map f).take lo++(aB.map f).take (min aB.length n)++(xs.map f).drop (lo+min aB.length n):=by
 simp only[over,List.map_append,List.map_take,List.map_drop,List.length_take]
 rw[Nat.min_comm n]
 congr 2
 rw[←List.map_take,←List.map_take]
 congr 1
 rcases Nat.le_total aB.length n with h|h
 ·rw[Nat.min_eq_left h,List.take_of_length_le h,List.take_of_length_le (Nat.le_refl _)]
 ·rw[Nat.min_eq_right h]
theorem O7 {α:Type} {lo n:Nat} {xs aB:List α} (h:min aB.length n=0):over lo n xs aB=xs:=by
 have:aB.take n=[]:=List.eq_nil_of_length_eq_zero (by rw[List.length_take];omega)
 simp[over,this]
theorem Oz {α:Type} {lo n:Nat} {xs aB:List α} (h:lo+n≤xs.length):(over lo n xs aB).length=xs.length:=by
 simp only[over,List.length_append,List.length_take,List.length_drop];omega
theorem ah0 {α:Type} {sz lo n:Nat} {xs aB:List (List α)} (aj:∀r∈xs,r.length=sz) (hy:∀r∈aB,r.length=sz):
 (over lo n xs aB).flatten=xs.flatten.take (lo*sz)++aB.flatten.take (min aB.length n*sz)++xs.flatten.drop (lo*sz+min aB.length n*sz):=by
 simp only[over,List.flatten_append,List.length_take]
 rw[Oo _ aj,Xd _ aj,Nat.min_comm n,Nat.add_mul]
 congr 2
 rw[←Oo _ hy]
 congr 1
 rcases Nat.le_total aB.length n with h|h
 ·rw[Nat.min_eq_left h,List.take_of_length_le h,List.take_of_length_le (Nat.le_refl _)]
 ·rw[Nat.min_eq_right h]
theorem aiJ {c c':BC} {lo n m:Nat} {d:D} (h:Ba c lo n d=some (c',m)):∃fS,d.yA=some fS∧c.arr=true∧c'.arr=true∧fS.e0=c.e0∧c'.e0=c.e0∧m=min fS.count n∧c'.count=c.count∧lo+n≤c.count∧
 (m=0→c'=c)∧(fS.elems.map ai.d).all ai.dY=true∧(c.wf→fS.wf→c'.wf∧c'.elems=c.elems.take (lo*c.e0)++fS.elems.take (m*c.e0)++c.elems.drop (lo*c.e0+m*c.e0)):=by
 unfold Ba at h
 split at h
 ·rename_i k xs eH aB
  split at h
  ·rename_i e;obtain⟨rfl,aJ⟩:=e
   simp only[Option.some.injEq,Prod.mk.injEq]at h;obtain⟨rfl,rfl⟩:=h
   exact⟨.ints eH aB,rfl,rfl,rfl,rfl,rfl,rfl,by simp[BC.count,Oz aJ],aJ,fun e=>by rw[O7 e],by simp[BC.elems,ai.dY],fun _ _=>⟨trivial,by simp only[BC.elems,BC.e0,YL,Nat.mul_one]⟩⟩
  ·cases h
 ·rename_i xs aB
  split at h
  ·rename_i aJ
   simp only[Option.some.injEq,Prod.mk.injEq]at h;obtain⟨rfl,rfl⟩:=h
   exact⟨.flts aB,rfl,rfl,rfl,rfl,rfl,rfl,by simp[BC.count,Oz aJ],aJ,fun e=>by rw[O7 e],by simp[BC.elems,ai.dY],fun _ _=>⟨trivial,by simp only[BC.elems,BC.e0,YL,Nat.mul_one]⟩⟩
  ·cases h
 ·rename_i sz xs BO aB
  split at h
  ·rename_i e;obtain⟨rfl,aJ,SW⟩:=e
   simp only[Option.some.injEq,Prod.mk.injEq]at h;obtain⟨rfl,rfl⟩:=h
   refine⟨.recs BO aB,rfl,rfl,rfl,rfl,rfl,rfl,by simp[BC.count,Oz aJ],aJ,fun e=>by rw[O7 e],by simpa [BC.elems,AL]using SW,fun h1 h2=>⟨fun r ar=> ?_,ah0 h1 h2⟩⟩
   simp only[over,List.mem_append]at ar
   rcases ar with (ar|ar)|ar
   ·exact h1 r (List.mem_of_mem_take ar)
   ·exact h2 r (List.mem_of_mem_take ar)
   ·exact h1 r (List.mem_of_mem_drop ar)
  ·cases h
 ·cases h
theorem akF {ty:TypeId} {op:Op} {ek:eG} {x y:bB} (ah:dV P ty op=some (.copy ek x y)):
 ∃p q t u e,op= .call { callee:= .builtin .copy,args:= #[p,q],argTypes:= #[t,u] }∧sL P t=some ek∧eh P p=some x∧eh P q=some y∧P.underlying t=some (.slice e):=by
 cases op with
 |call c=>
  cases c with
  |mk callee args dv=>
   simp only[dV,vb]at ah
   split at ah
   ·rename_i _ b
    simp only[uL]at ah
    split at ah
    ·split at ah
     ·obtain⟨v,_,h⟩:=map_some ah;cases h
     ·cases ah
    ·split at ah
     ·cases ah
     ·cases ah
    ·split at ah
     ·cases ah
     ·cases ah
    ·split at ah
     ·split at ah
      ·cases ah
      ·cases ah
     ·cases ah
    ·rename_i p q t u a9 Ij
     split at ah
     ·rename_i h1 h2 aq
      split at ah
      ·rename_i aG
       simp only[Option.some.injEq,bJ.copy.injEq]at ah
       obtain⟨rfl,rfl,rfl⟩:=ah
       have tY:args= #[p,q]:=by rw[←Array.toList_inj];exact a9
       have HG:dv= #[t,u]:=by rw[←Array.toList_inj];exact Ij
       subst tY HG
       cases hu:P.underlying t with
       |none=>simp[sL,hu]at h1
       |some Wl=>
        cases Wl with
        |slice e=>exact⟨p,q,t,u,e,rfl,h1,h2,aq,hu⟩
        |_=>simp[sL,hu]at h1
      ·cases ah
     ·cases ah
    ·cases ah
   ·obtain⟨v,_,h⟩:=map_some ah;cases h
   ·split at ah
    ·cases ah
    ·cases ah
   ·cases ah
 |makeFunc f x y=>
  exfalso
  cases f with
  |func f=>
   simp only[dV,va]at ah
   split at ah
   ·cases ah
   ·cases ah
  |_=>cases ah
 |_=>
  exfalso
  first
   |(cases ah;done)
   |(obtain⟨v,_,h⟩:=map_some ah;cases h;done)
   |(simp only[dV,uP,u6,u7,wH,vl,u9,uW,uX,uY,uZ,u0,u1,wL,vm]at ah
     repeat' (split at ah)
     all_goals first
      |(cases ah;done)
      |(obtain⟨v,_,h⟩:=map_some ah;cases h;done))
theorem X8 {m:Mem} :∀{ds:List D} {us:List Value} (n:Nat),bV m ds us→bV m (ds.take n) (us.take n)
 |[],us,n,h=>by simp only[bV]at h;subst h;simp[bV]
 |d::ds,us,0,_=>by simp[bV]
 |d::ds,us,n+1,h=>by
  simp only[bV]at h
  obtain⟨v,vs,rfl,h1,h2⟩:=h
  simp only[List.take_succ_cons,bV]
  exact⟨v,vs.take n,rfl,h1,X8 n h2⟩
theorem ahP {size m l cap:Nat} {A:Option Addr} {vs:List Value} (aJ:vs.length=m*size) (aC:∀j x,vs[j]? =some x→∃aV,A=some aV∧w.cell? (aV.add j)=some x):
 (Builtin.firstCells size m (.slice A l cap)).run P w= .ok vs.toArray w:=by
 cases A with
 |none=>
  have:vs=[]:=by
   cases vs with
   |nil=>rfl
   |cons v vs=>obtain⟨aV,h,_⟩:=aC 0 v rfl;cases h
  subst this
  exact run_firstCells_none w size m l cap
 |some aV=>
  exact run_firstCells_some w size m aV l cap vs aJ fun j x aH=>by
   obtain⟨an0,h1,h2⟩:=aC j x aH
   simp only[Option.some.injEq]at h1
   subst h1;exact h2
theorem ajr (h:bl N aU aP R σ a w rd β) {o:Oper} {ek:eG} {x y:bB} (ah:dV P o.type o.op=some (.copy ek x y)) (aL:h8 N o.dst=true) {i lo n m:Nat} {e:Bool} {c c':BC} {d:D} {K:St→Prop}
 (aj:σ.a3 x= .own i lo n) (aw:σ.az i=some ⟨false,e,c⟩) (hy:toD σ (σ.a3 y)=some d) (au:Ba c lo n d=some (c',m)) (fG:pr (σ.az i)=some ek.sz)
 (cj:K ((σ.eF i ⟨false,e,c'⟩).put o.dst (.d (.int .i64 m)))):fD P N aU aP R o a w K:=by
 obtain⟨p,q,t,u,N2,bQ,lp,a1,a7,hu⟩:=akF ah
 have LM:ts P N2=some ek:=by simpa [sL,hu]using lp
 obtain⟨ya,HE⟩:=Gr LM
 obtain⟨fS,bE,bM,bn,h5,oM,bf,Wm,Wn,Wo,SZ,aob⟩:=aiJ au
 rw[aw]at fG
 obtain⟨_,fH⟩:=X4 fG
 have c6:=e4 h a1
 have gL:=e4 h a7
 rw[aj]at c6
 obtain⟨A',Du,vs,S0,jj,MG,ES,S1⟩:=Kx h hy bE gL
 simp only[aX]at c6
 obtain⟨A,cap,MI,tG,hA⟩:=c6
 rw[h5,fH]at jj
 have zT:(vs.take (m*ek.sz)).length=m*ek.sz:=by
  rw[List.length_take,jj,bf]
  exact Nat.min_eq_left (Nat.mul_le_mul_right _ (Nat.min_le_left _ _))
 have hf:(Builtin.firstCells ek.sz m (.slice A' fS.count Du)).run P w= .ok (vs.take (m*ek.sz)).toArray w:=ahP zT fun j z aH=>S1 j z (by
  rw[List.getElem?_take]at aH
  split at aH
  ·exact aH
  ·cases aH)
 have Bs:Nat.min fS.count n=m:=bf.symm
 have Df:∀{w':World},(match A with|some x=>storeCells x (vs.take (m*ek.sz))|none=>pure ()).run P w= .ok () w'→(execOp a.eval o).run P w= .ok (.value (.int .i64 m)) w':=by
  intro w' ar
  have al3:(Builtin.copy_ #[t,u] o.type #[.slice A n cap,.slice A' fS.count Du]).run P w= .ok (.int .i64 m) w':=by
   cases A with
   |none=>
    simp only[Sem.run_pure,Result.ok.injEq,true_and]at ar
    subst ar
    simp[Builtin.copy_,gn hu,pe ya,Builtin.lenOf,Bs,hf,goInt]
   |some x=>
    simp only at ar
    simp[Builtin.copy_,gn hu,pe ya,Builtin.lenOf,Bs,hf,ar,goInt]
  simp only[execOp,bQ,resolve,invoke,builtin,Sem.run_bind,Sem.run_pure,Result.andThen_ok,List.map_toArray,List.map_cons,List.map_nil,MI,S0,al3]
 have hval:∀{rd:Mem} {β:bU},aX rd β (.d (.int .i64 m)) (.int .i64 m):=by intros;simp only[aX,bA]
 rcases hA with ⟨rfl,rfl⟩|⟨r,hi,hA,_⟩
 ·have afv:m=0:=by rw[bf];exact Nat.min_zero _
  have dL:=Wo afv
  subst dL
  refine fD.value (Df (w':=w) (by subst afv;cases A<;>simp[storeCells])) (σ':=σ.eF i ⟨false,e,c'⟩) (rd':=rd) (β':=β) (by rw[X5 aw];exact h) hval aL cj
 ·obtain⟨b,c4,HH,zS,gZ,_⟩:=h.box i r hi
  rw[aw]at c4;simp only[Option.some.injEq]at c4;subst c4
  obtain⟨cy,aR,aW,aS⟩:=(fq.elems bM).1 HH
  obtain⟨cC,c9⟩:=aob aW MG
  have MF:=J7 aW bM
  have asi:m≤n:=by rw[bf];exact Nat.min_le_right _ _
  have LN:lo*ek.sz+m*ek.sz≤c.count*ek.sz:=by rw[←Nat.add_mul];exact Nat.mul_le_mul_right _ (by omega)
  have adE:=X8 (m*ek.sz) ES
  have yc:(fS.elems.take (m*ek.sz)).length=m*ek.sz:=by rw[←yN adE,zT]
  obtain⟨w',dw,eK,e9,oN⟩:=h.write (P:=P) hi aw (vs:=vs.take (m*ek.sz)) (p:=lo*ek.sz) (by rw[zT];rw[fH]at aR;omega) (fun v aC=>KI SZ (AA (β:=β) ES) v (List.mem_of_mem_take aC))
  refine fD.value (Df (w':=w') (by
   subst hA
   simp only[cy,fH]
   exact dw)) (eK c' ((fq.elems bn).2 ⟨by rw[cy,oM],by rw[Wm,oM];exact aR,cC,?_⟩)) hval aL cj
  rw[c9,fH]
  have:=aS.write (w':=w') (p:=lo*ek.sz) (vs:=fS.elems.take (m*ek.sz)) (by rw[yc,MF,fH];exact LN) (cZ.wD adE fun j v aH=>e9 j v aH) (by rw[yc];rw[zT]at oN;exact oN)
  rw[yc]at this
  exact this
theorem OA (j:Nat):∀(xs aB:List ai),ai.cY j (xs++aB)=(ai.cY j xs||ai.cY j aB)
 |[],aB=>by simp[ai.cY]
 |x::xs,aB=>by simp only[List.cons_append,ai.cY,OA j xs aB,Bool.or_assoc]
theorem XP {ty:TypeId} {op:Op} {f:Nat} {as:List bB} (ah:dV P ty op=some (.call f as)):
 ∃args dv,op= .call { callee:= .value (.func f),args,argTypes:=dv }∧qM P dv.toList args.toList=some as:=by
 cases op with
 |call c=>
  cases c with
  |mk callee args dv=>
   simp only[dV,vb]at ah
   split at ah
   ·exfalso
    simp only[uL]at ah
    repeat' (split at ah)
    all_goals first
     |(cases ah;done)
     |(obtain⟨v,_,h⟩:=map_some ah;cases h;done)
   ·rename_i _ aho
    obtain⟨v,h1,h2⟩:=map_some ah
    simp only[bJ.call.injEq]at h2
    obtain⟨rfl,rfl⟩:=h2
    exact⟨args,dv,rfl,h1⟩
   ·split at ah
    ·cases ah
    ·cases ah
   ·cases ah
 |makeFunc f x y=>
  exfalso
  cases f with
  |func f=>
   simp only[dV,va]at ah
   split at ah
   ·cases ah
   ·cases ah
  |_=>cases ah
 |_=>
  exfalso
  first
   |(cases ah;done)
   |(obtain⟨v,_,h⟩:=map_some ah;cases h;done)
   |(simp only[dV,uP,u6,u7,wH,vl,u9,uW,uX,uY,uZ,u0,u1,wL,vm]at ah
     repeat' (split at ah)
     all_goals first
      |(cases ah;done)
      |(obtain⟨v,_,h⟩:=map_some ah;cases h;done))
theorem OB {ty:TypeId} {op:Op} {x:bB} {as:List bB} (ah:dV P ty op=some (.hS x as)):
 ∃y args dv,op= .call { callee:= .value y,args,argTypes:=dv }∧eh P y=some x∧qM P dv.toList args.toList=some as:=by
 cases op with
 |call c=>
  cases c with
  |mk callee args dv=>
   simp only[dV,vb]at ah
   split at ah
   ·exfalso
    simp only[uL]at ah
    repeat' (split at ah)
    all_goals first
     |(cases ah;done)
     |(obtain⟨v,_,h⟩:=map_some ah;cases h;done)
   ·obtain⟨v,_,h⟩:=map_some ah;cases h
   ·split at ah
    ·rename_i h1 h2
     simp only[Option.some.injEq,bJ.hS.injEq]at ah
     obtain⟨rfl,rfl⟩:=ah
     exact⟨_,args,dv,rfl,h1,h2⟩
    ·cases ah
   ·cases ah
 |makeFunc f x y=>
  exfalso
  cases f with
  |func f=>
   simp only[dV,va]at ah
   split at ah
   ·cases ah
   ·cases ah
  |_=>cases ah
 |_=>
  exfalso
  first
   |(cases ah;done)
   |(obtain⟨v,_,h⟩:=map_some ah;cases h;done)
   |(simp only[dV,uP,u6,u7,wH,vl,u9,uW,uX,uY,uZ,u0,u1,wL,vm]at ah
     repeat' (split at ah)
     all_goals first
      |(cases ah;done)
      |(obtain⟨v,_,h⟩:=map_some ah;cases h;done))
theorem bl.newAt (h:bl N aU aP R σ a w rd β) {b8:World} (ua:Below w.heap.size w b8) {σ':St} {i:Nat} {b:cr} (he:b.ext=false) {r:dp} (ar:w.heap.size≤r.cc) (Ih:r.whole=true)
 {f:ai→ai} (hf:∀x v,aX rd β x v→aX rd (fun j=>if j=i then some r else β j) (f x) v)
 (BP:σ'.ag=fun t=>f (σ.ag t)) (ix:∀j,σ'.az j=if j=i then some b else (σ.az j).map (cr.gJ f))
 (au:fq b8 rd (fun j=>if j=i then some r else β j) r b.c) (a1:qY b8 r):
 bl N aU aP R σ' a b8 rd (fun j=>if j=i then some r else β j)where
 size:=h.size
 defers:=h.defers
 cV:=h.cV.below ua
 dy:=O1 ua (fun _ _ e _=>e) (fun j r' aH=>by split at aH;simp only[Option.some.injEq]at aH;subst aH;exact .inr ar;exact .inl aH) h.dy
 dK:=h.dK
 c3:=Po ua h.c3
 aP:=h.aP
 eX:=fun j r' g2 aH aj br aV a9=>by
  split at aH
  ·simp only[Option.some.injEq]at aH
   subst aH
   cases e:rd aV with
   |none=>rfl
   |some v=>have:=yQ (h.c3 aV v e);have:=a9.1;omega
  ·rename_i fy
   rw[ix,if_neg fy]at aj
   obtain⟨dc,h0,_⟩:=h.box j r' aH
   rw[h0]at aj
   simp only[Option.map_some,Option.some.injEq]at aj
   subst aj
   exact h.eX j r' dc aH h0 br aV a9
 eY:=fun t=>by rw[BP];exact hf _ _ (h.eY t)
 box:=fun j r' aH=>by
  split at aH
  ·rename_i fy
   simp only[Option.some.injEq]at aH
   subst aH
   refine⟨b,by rw[ix,if_pos fy],au,a1,fun _=>⟨Nat.le_trans h.cV.size ar,Ih⟩,fun e=>by rw[he]at e;cases e⟩
  ·rename_i fy
   obtain⟨dc,h0,dL,fF,h1,h2⟩:=h.box j r' aH
   have bw:=fF.lt
   have Ii:b8.heap[r'.cc]? =w.heap[r'.cc]? :=ua.block _ bw
   exact⟨dc.gJ f,by rw[ix,if_neg fy,h0];rfl,dL.gJ hf (fun k _ _=>uH Ii),fF.AO Ii,h1,h2⟩
 eL:=fun j g2 aj aH=>by
  split at aH
  ·cases aH
  ·rename_i fy
   rw[ix,if_neg fy]at aj
   cases h0:σ.az j with
   |none=>rw[h0]at aj;cases aj
   |some dc=>
    rw[h0]at aj
    simp only[Option.map_some,Option.some.injEq]at aj
    subst aj
    obtain⟨bE,bM⟩:=h.eL j dc h0 aH
    exact⟨bE,by rw[←bM];exact CJ f dc.c⟩
 eR:=fun j k iQ qE sM aH af aV a9 c4=>by
  split at aH<;>split at af
  ·omega
  ·simp only[Option.some.injEq]at aH
   subst aH
   obtain⟨_,_,_,fF,_⟩:=h.box k qE af
   have:=fF.lt
   have:=a9.1
   have:=c4.1
   omega
  ·simp only[Option.some.injEq]at af
   subst af
   obtain⟨_,_,_,fF,_⟩:=h.box j iQ aH
   have:=fF.lt
   have:=a9.1
   have:=c4.1
   omega
  ·exact h.eR j k iQ qE sM aH af aV a9 c4
theorem aiK {f:Nat} {C:bC} (cA:ld P aP f C) (h:bl N aU aP R σ a w rd β) {o:Oper} (aL:h8 N o.dst=true) {vs:List ai} {us:Array Value} (hu:b6 rd β vs us.toList)
 (ar:(execOp a.eval o).run P w= .ok (.enter f us) w) {K:St→Prop} (af:u5 C o.dst σ K vs):fD P N aU aP R o a w K:=by
 intro next Q aQ
 unfold u5 at af
 split at af
 ·rename_i ds hE
  obtain⟨a1,af⟩:=af
  by_cases Rb:C.own=true
  ·rw[if_pos Rb]at af
   split at af
   ·rename_i i c n qf iz
    have tX:=toDs_rep h (S:=ja β vs) vs _ ds hE hu fun i r aV hi eC fz=>⟨i,r,hi,eC,fz⟩
    refine CR cA ar (m:=plus w (ja β vs) rd) (h.dK.trans (pg _ _ _)) (wC h.c3) a1 tX ?_
    intro v b8 aw aC
    obtain⟨c',yz,A,cap,Io,rfl,zN,hA⟩:=aC.2 Rb
    rw[iz]at Io
    simp only[Option.some.injEq,Prod.mk.injEq]at Io
    obtain⟨rfl,rfl⟩:=Io
    rcases hA with ⟨h0,h1⟩|⟨r,hw,eC,zS,ho,hA,tG⟩
    ·have Rc:c.isNil=true:=by
      cases g4:C.res ds with
      |ints k xs=>
       rw[g4]at iz
       simp only[jF,Option.some.injEq,Prod.mk.injEq]at iz
       obtain⟨rfl,rfl⟩:=iz
       rw[List.eq_nil_of_length_eq_zero h0];rfl
      |flts xs=>
       rw[g4]at iz
       simp only[jF,Option.some.injEq,Prod.mk.injEq]at iz
       obtain⟨rfl,rfl⟩:=iz
       rw[List.eq_nil_of_length_eq_zero h0];rfl
      |_=>rw[g4]at iz;simp[jF]at iz
     rw[←qf]at af
     exact aQ _ _ _ _ _ af ((Z8 (h.below aw) (xI σ i _) Rc).put aL (by simp only[aX];exact⟨A,cap,rfl,zN,.inl ⟨h0,h1⟩⟩))
    ·rw[←qf]at af
     have zR:=xI (rd:=rd) (β:=β) σ i ⟨false,false,c⟩
     refine aQ _ _ _ _ _ af (bl.put (β:=fC β i (some r)) (bl.newAt h aw (b:=⟨false,false,c⟩) rfl eC hw (zR.rep _) zR.ag zR.az ?_ zS) aL ?_)
     ·cases g4:C.res ds with
      |ints k xs=>
       rw[g4]at iz
       simp only[jF,Option.some.injEq,Prod.mk.injEq]at iz
       obtain⟨rfl,rfl⟩:=iz
       exact ho
      |flts xs=>
       rw[g4]at iz
       simp only[jF,Option.some.injEq,Prod.mk.injEq]at iz
       obtain⟨rfl,rfl⟩:=iz
       exact ho
      |_=>rw[g4]at iz;simp[jF]at iz
     ·simp only[aX]
      refine⟨A,cap,rfl,zN,.inr ⟨r,if_pos rfl,by rw[hA,Nat.zero_mul,Nat.add_zero],fun _=>by omega⟩⟩
   ·exact af.elim
  ·rw[if_neg Rb]at af
   split at af
   ·rename_i MD
    simp only[Bool.or_eq_true]at MD
    rcases MD with yb|kH
    ·have tX:=toDs_rep h (S:=ja β vs) vs _ ds hE hu fun i r aV hi eC fz=>⟨i,r,hi,eC,fz⟩
     refine CR cA ar (m:=plus w (ja β vs) rd) (h.dK.trans (pg _ _ _)) (wC h.c3) a1 tX ?_
     intro v b8 aw aC
     exact aQ _ _ _ _ _ af ((h.below aw).put aL (YH yb aC.rep))
    ·have tX:=CN h kH hE hu
     refine CR cA ar h.dK h.c3 a1 tX ?_
     intro v b8 aw aC
     exact aQ _ _ _ _ _ af ((h.fresh aw).put aL (tq aC.rep))
   ·obtain⟨aJ,af⟩:=af
    have tX:=toDs_rep h (S:=ja β vs) vs _ ds hE hu fun i r aV hi eC fz=>⟨i,r,hi,eC,fz⟩
    refine CR cA ar (m:=plus w (ja β vs) rd) (h.dK.trans (pg _ _ _)) (wC h.c3) a1 tX ?_
    intro v b8 aw aC
    exact aQ _ _ _ _ _ af (((h.w4 aJ).fresh aw).put aL (tq aC.rep))
 ·exact af.elim
theorem aj4 {w:World} (d:Nat) {t e:TypeId} (A:Option Addr) (n c yz c':Nat) (h:P.underlying t=some (.slice e)):(Op.equalIn (d+1) t (.slice A n c) (.slice none yz c')).run P w= .ok A.isNone w:=by
 cases A<;>simp[Op.equalIn,run_underlying h]
theorem akG {w:World} {t e:TypeId} (A:Option Addr) (n c yz c':Nat) (h:P.underlying t=some (.slice e)):(binOp .eql t (.slice A n c) (.slice none yz c')).run P w= .ok (.bool A.isNone) w:=by
 simp only[binOp]
 simp[Op.equal,Op.maxDepth,aj4 (w:=w) 9999 A n c yz c' h]
theorem aj5 {ty:TypeId} {op:Op} {x:bB} (ah:dV P ty op=some (.y9 x)):
 ∃t p v5 e,op= .binOp .eql t p (.const (.slice none 0 0)) v5∧eh P p=some x∧P.underlying t=some (.slice e):=by
 cases op with
 |binOp b t p q v5=>
  simp only[dV,vl]at ah
  split at ah
  ·repeat' split at ah
   all_goals cases ah
  ·rename_i dN h1 h2
   split at ah
   ·rename_i e he
    simp only[Option.some.injEq,bJ.y9.injEq]at ah
    subst ah
    exact⟨t,p,v5,e,rfl,h1,he⟩
   ·cases ah
  ·cases ah
 |call c=>
  exfalso
  cases c with
  |mk callee args dv=>
   simp only[dV,vb]at ah
   split at ah
   ·simp only[uL]at ah
    repeat' (split at ah)
    all_goals first
     |(cases ah;done)
     |(obtain⟨v,_,h⟩:=map_some ah;cases h;done)
   ·obtain⟨v,h1,h2⟩:=map_some ah;cases h2
   ·split at ah
    ·cases ah
    ·cases ah
   ·cases ah
 |makeFunc f x y=>
  exfalso
  cases f with
  |func f=>
   simp only[dV,va]at ah
   split at ah
   ·cases ah
   ·cases ah
  |_=>cases ah
 |_=>
  exfalso
  first
   |(cases ah;done)
   |(obtain⟨v,_,h⟩:=map_some ah;cases h;done)
   |(simp only[dV,uP,u6,u7,wH,u9,uW,uX,uY,uZ,u0,u1,wL,vm]at ah
     repeat' (split at ah)
     all_goals first
      |(cases ah;done)
      |(obtain⟨v,_,h⟩:=map_some ah;cases h;done))
theorem ON (c0:ae P aP Γ) (h:bl N aU aP R σ a w rd β) {f:Nat} {o:Oper} (aL:h8 N o.dst=true) {vs:List ai} {us:Array Value} (hu:b6 rd β vs us.toList)
 (ar:A8 P f→(execOp a.eval o).run P w= .ok (.enter f us) w) {K:St→Prop} (af:sj Γ o.dst σ K f vs):fD P N aU aP R o a w K:=by
 unfold sj at af
 split at af
 ·rename_i C g4
  have cA:=c0.2 f C g4
  exact OM cA h aL hu (ar cA.1) (CK σ _).1 (fun i hi=>(CK σ _).2 i ((CK σ _).2 i (Gp (AP vs i hi)))) af
 ·rename_i C _ g4
  have cA:=c0.1 f C g4
  exact aiK cA h aL hu (ar cA.1) af
 ·exact af.elim
theorem Pq:∀{ds:List D} {us:List Value},bV rd ds us→b6 rd β (ds.map dn) us
 |[],us,h=>by simpa only[bV,b6,List.map_nil]using h
 |d::ds,us,h=>by
  simp only[bV,b6,List.map_cons]at*
  obtain⟨v,vs,e,h1,h2⟩:=h
  exact⟨v,vs,e,tq h1,Pq h2⟩
theorem Pr {g:Nat→Nat} :∀(v:ai),v.tidy (fun _=>false)=true→v.dG g=v:=by
 intro v
 refine ai.rec (motive_1:=fun v=>v.tidy (fun _=>false)=true→v.dG g=v) (motive_2:=fun vs=>ai.ht (fun _=>false) vs=true→ai.ga g vs=vs) ?_ ?_ ?_ ?_ ?_ ?_ ?_ ?_ ?_ ?_ ?_ v
 ·intro x _;rfl
 ·intro cs cM h;simp only[ai.tidy]at h;simp only[ai.dG,cM h]
 ·intro i o h;simp[ai.tidy]at h
 ·intro i o n h;simp[ai.tidy]at h
 ·intro i o n h;simp[ai.tidy]at h
 ·intro f a b BZ B0 h;simp only[ai.tidy,Bool.and_eq_true]at h;simp only[ai.dG,BZ h.1,B0 h.2]
 ·intro l h;simp[ai.tidy]at h
 ·intro h;simp[ai.tidy]at h
 ·intro h;simp[ai.tidy]at h
 ·intro _;rfl
 ·intro x xs BZ B0 h;simp only[ai.ht,Bool.and_eq_true]at h;simp only[ai.ga,BZ h.1,B0 h.2]
theorem X9 {g:Nat→Nat} :∀(vs:List ai),ai.ht (fun _=>false) vs=true→ai.ga g vs=vs
 |[],_=>rfl
 |v::vs,h=>by
  simp only[ai.ht,Bool.and_eq_true]at h
  simp only[ai.ga,Pr v h.1,X9 vs h.2]
theorem BC.Pr {g:Nat→Nat} {c:BC} (h:c.tidy (fun _=>false)=true):c.dG g=c:=by
 cases c with
 |cells cs=>simp only[BC.dG,X9 cs h]
 |_=>rfl
theorem KK {p:Nat→Bool} :∀(v:ai),v.tidy (fun _=>false)=true→v.tidy p=true:=by
 intro v
 refine ai.rec (motive_1:=fun v=>v.tidy (fun _=>false)=true→v.tidy p=true) (motive_2:=fun vs=>ai.ht (fun _=>false) vs=true→ai.ht p vs=true) ?_ ?_ ?_ ?_ ?_ ?_ ?_ ?_ ?_ ?_ ?_ v
 ·intro x _;rfl
 ·intro cs cM h;simp only[ai.tidy]at h⊢;exact cM h
 ·intro i o h;simp[ai.tidy]at h
 ·intro i o n h;simp[ai.tidy]at h
 ·intro i o n h;simp[ai.tidy]at h
 ·intro f a b BZ B0 h;simp only[ai.tidy,Bool.and_eq_true]at h⊢;exact⟨BZ h.1,B0 h.2⟩
 ·intro l h;simp[ai.tidy]at h
 ·intro h;simp[ai.tidy]at h
 ·intro h;simp[ai.tidy]at h
 ·intro _;rfl
 ·intro x xs BZ B0 h;simp only[ai.ht,Bool.and_eq_true]at h⊢;exact⟨BZ h.1,B0 h.2⟩
theorem Ya {p:Nat→Bool} :∀(vs:List ai),ai.ht (fun _=>false) vs=true→ai.ht p vs=true
 |[],_=>rfl
 |v::vs,h=>by
  simp only[ai.ht,Bool.and_eq_true]at h⊢
  exact⟨KK v h.1,Ya vs h.2⟩
theorem BC.KK {p:Nat→Bool} {c:BC} (h:c.tidy (fun _=>false)=true):c.tidy p=true:=by
 cases c with
 |cells cs=>exact Ya cs h
 |_=>rfl
theorem Xf {σ:St} {p:Nat→Bool} :∀{is:List Nat} {cs:List BC},contents σ (fun _=>false) is=some cs→contents σ p is=some cs∧hQ σ is cs=σ
 |[],cs,h=>by
  simp only[contents,Option.some.injEq]at h
  subst h
  exact⟨rfl,rfl⟩
 |i::r,cs,h=>by
  simp only[contents]at h
  split at h
  ·rename_i e c cs' aw ar
   split at h
   ·rename_i au
    simp only[Option.some.injEq]at h
    subst h
    obtain⟨h1,h2⟩:=Xf (p:=p) ar
    refine⟨by simp only[contents,aw,h1,BC.KK au,if_true],?_⟩
    have aG:σ.eF i ⟨false,e,c⟩=σ:=by
     unfold St.eF qX
     cases σ with
     |mk ag az=>
      simp only at aw⊢
      congr 1
      funext t
      by_cases ah:t=i
      ·subst ah;rw[if_pos rfl,aw]
      ·rw[if_neg ah]
    simp only[hQ,aw,aG,h2]
   ·cases h
  ·cases h
theorem aiL {C:hg} {σ:St} {dst:Option Nat} {K:St→Prop} {vs:List ai} (h:wP C σ (fun v=>K (σ.put dst v)) vs):wG C dst σ K vs (distinct (ai.ic vs)):=by
 unfold wP at h
 split at h
 ·rename_i cs fH
  obtain⟨h1,h2,aq⟩:=h
  obtain⟨bR,cN,_⟩:=J4 fH
  obtain⟨bE,bM⟩:=Xf (p:=fun i=>(distinct (ai.ic vs)).contains i) fH
  have aoc:∀g:Nat→Nat,cs.map (BC.dG g)=cs:=fun g=>by
   conv=>rhs;rw[←List.map_id cs]
   exact List.map_congr_left fun c au=>BC.Pr (cN c au)
  unfold wG
  rw[bE]
  simp only[aoc,h2]
  refine⟨h1,bR,?_,?_⟩
  ·rw[List.all_eq_true];exact fun c au=>BC.KK (cN c au)
  ·rw[bM];exact aq
 ·exact h.elim
theorem Yb (c0:ae P aP Γ) (h:bl N aU aP R σ a w rd β) {o:Oper} {l:bJ} (ah:dV P o.type o.op=some l) (aL:h8 N o.dst=true) {K:St→Prop}
 (af:bz Γ σ (fun v=>K (σ.put o.dst v)) l):fD P N aU aP R o a w K:=by
 cases au:l.p6 with
 |false=>exact(ajl h ah au af).goes aL
 |true=>
  by_cases kG:∀x as,l= .hS x as→∀f u v,σ.a3 x≠ .dr f u v
  ·exact fun next Q aQ=>aiH c0.1 h ah au af kG fun av u w' rd' h1 h2 aq=>aQ _ _ _ _ _ h1 (h2.put aL aq)
  ·have:∃x as f u v,l= .hS x as∧σ.a3 x= .dr f u v:=by
    refine Classical.byContradiction fun eZ=>kG fun x as aJ f u v e=>eZ ⟨x,as,f,u,v,aJ,e⟩
   obtain⟨x,S4,f,fst,cap,rfl,e⟩:=this
   obtain⟨y,as,dv,bQ,hy,has⟩:=OB ah
   have c6:=e4 h hy
   have ML:=uJ h has
   simp only[bz,e]at af
   rw[e]at c6
   simp only[aX]at c6
   obtain⟨gi,vc,aC,bX,ch⟩:=c6
   split at af
   ·rename_i C g4
    have cA:=c0.2 f C g4
    refine OM cA h aL (us:=gi++as.map a.eval++vc) ?_ (Kl bQ aC cA.1) (Oi _) (fun i hi=>Gp (AP _ i hi)) (aiL af)
    simp only[Array.toList_append,Array.toList_map]
    exact xF (xF bX ML) ch
   ·exact af.elim
theorem O8 (c0:ae P aP Γ) (h:bl N aU aP R σ a w rd β) {o:Oper} {l:bJ} (ah:dV P o.type o.op=some l) (aL:h8 N o.dst=true) {K:St→Prop}
 (af:db Γ o.dst σ K l):fD P N aU aP R o a w K:=by
 have amG:∀{i:Nat} {xs:List ai} {vs:List Value} {r:Option dp},ai.cY i xs=false→b6 rd β xs vs→b6 rd (fC β i r) xs vs:=fun aQ ar=>
  b6.congr _ _ (fun j aH=>by
   simp only[fC];rw[if_neg];rintro rfl;rw[aQ]at aH;cases aH) ar
 cases l with
 |alloc z=>
  simp only[db]at af
  split at af
  ·rename_i i hi
   refine GC h ah rfl aL (i:=i) (g:=fun b=>σ.fresh i b) (by simp only[made];exact af) (fun b=>xI σ i b) (fun x e=>by cases e)
  ·exact af.elim
 |box x=>
  simp only[db]at af
  split at af
  ·rename_i i hi
   refine GC h ah rfl aL (i:=i) (g:=fun b=>σ.fresh i b) (by simp only[made];exact af.2) (fun b=>xI σ i b) (fun y e r vs ar=> ?_)
   simp only[bJ.box.injEq]at e
   subst e
   refine amG ?_ ar
   have:=af.1
   cases aC:σ.a3 x with
   |agg cs=>rw[aC]at this;simpa [ai.has,ai.cells]using this
   |_=>rw[aC]at this;simpa [ai.cY,ai.cells]using this
  ·exact af.elim
 |rq ek z n=>
  simp only[db]at af
  split at af
  ·rename_i i k m hi hm
   split at af
   ·rename_i c au
    refine GC h ah rfl aL (i:=i) (g:=fun b=>σ.fresh i b) (by simp only[made,hm,au];exact af) (fun b=>xI σ i b) (fun x e=>by cases e)
   ·exact af.elim
  ·exact af.elim
 |nil ek=>
  simp only[db]at af
  split at af
  ·rename_i i hi
   refine GC h ah rfl aL (i:=i) (g:=fun b=>σ.fresh i b) (by simp only[made];exact af) (fun b=>xI σ i b) (fun x e=>by cases e)
  ·exact af.elim
 |store n x y=>
  simp only[db]at af
  split at af
  ·rename_i i off aj
   split at af
   ·rename_i e c aw
    obtain⟨h1,h2,af⟩:=af
    split at af
    ·rename_i c' au
     exact Gx h ah aL aw h1 h2 (.inl ⟨off,aj,au⟩) af
    ·exact af.elim
   ·exact af.elim
  ·rename_i i j off aj
   split at af
   ·rename_i e c aw
    obtain⟨h1,h2,af⟩:=af
    split at af
    ·rename_i c' au
     exact Gx h ah aL aw h1 h2 (.inr ⟨j,off,aj,au⟩) af
    ·exact af.elim
   ·exact af.elim
  ·exact af.elim
 |app ek x y=>
  simp only[db]at af
  split at af
  ·rename_i i lo n aj
   split at af
   ·rename_i c d aw hy
    split at af
    ·rename_i c' au
     obtain⟨h1,rfl,aq,aE,af⟩:=af
     exact aj3 h ah aL aj aw hy au h1 aq aE af
    ·exact af.elim
   ·exact af.elim
  ·exact af.elim
 |copy ek x y=>
  simp only[db]at af
  split at af
  ·rename_i i lo n aj
   split at af
   ·rename_i e c d aw hy
    split at af
    ·rename_i c' m au
     exact ajr h ah aL aj aw hy au af.1 af.2
    ·exact af.elim
   ·exact af.elim
  ·exact af.elim
 |call f args=>
  simp only[db]at af
  obtain⟨as,dv,bQ,has⟩:=XP ah
  exact ON c0 h aL (us:=as.map a.eval) (by simpa using uJ h has) (fun bh=>O6 bQ bh) af
 |hS x args=>
  simp only[db]at af
  obtain⟨y,as,dv,bQ,hy,has⟩:=OB ah
  have c6:=e4 h hy
  have ML:=uJ h has
  split at af
  ·rename_i f fst cap e
   rw[e]at c6
   simp only[aX,bA]at c6
   obtain⟨gi,vc,aC,bX,ch⟩:=c6
   refine ON c0 h aL (us:=gi++as.map a.eval++vc) ?_ (fun bh=>Kl bQ aC bh) af
   simp only[Array.toList_append,Array.toList_map]
   exact xF (xF (Pq bX) ML) (Pq ch)
  ·rename_i f fst cap e
   rw[e]at c6
   simp only[aX]at c6
   obtain⟨gi,vc,aC,bX,ch⟩:=c6
   refine ON c0 h aL (us:=gi++as.map a.eval++vc) ?_ (fun bh=>Kl bQ aC bh) af
   simp only[Array.toList_append,Array.toList_map]
   exact xF (xF bX ML) ch
  ·exact af.elim
 |y9 x=>
  simp only[db]at af
  split at af
  ·rename_i d aod
   obtain⟨S5,af⟩:=af
   obtain⟨t,p,v5,e,bQ,a1,hu⟩:=aj5 ah
   have c6:=e4 h a1
   have ho:∃c,d.yA=some c∧(c.count=0→d.emp=true)∧(c.e0=0→d.emp=true):=by
    cases d with
    |ints k xs=>exact⟨_,rfl,fun h0=>by cases xs with|nil=>rfl|cons _ _=>simp[BC.count]at h0,fun h0=>by simp[BC.e0]at h0⟩
    |flts xs=>exact⟨_,rfl,fun h0=>by cases xs with|nil=>rfl|cons _ _=>simp[BC.count]at h0,fun h0=>by simp[BC.e0]at h0⟩
    |_=>simp[D.Hs]at S5
   obtain⟨c,au,S6,S7⟩:=ho
   obtain⟨A,cap,vs,aC,jj,_,_,fB⟩:=Kx h aod au c6
   refine fD.value (u:= .bool A.isNone) (v:= .d (.bool A.isNone)) (w':=w) ?_ h (by simp only[aX,bA]) aL (af _ fun aQ=> ?_)
   ·have LK:=akG (w:=w) A c.count cap 0 0 hu
    simp only[execOp,bQ,aC,show a.eval (.const (.slice none 0 0))= .slice none 0 0 from rfl]
    simp[eqGuard,LK]
   ·cases zP:vs with
    |nil=>
     rw[zP]at jj
     rcases Nat.mul_eq_zero.1 (show c.count*c.e0=0 from jj.symm)with h0|h0
     ·exact S6 h0
     ·exact S7 h0
    |cons u us=>
     obtain⟨aV,h1,_⟩:=fB 0 u (by rw[zP];rfl)
     rw[h1]at aQ;cases aQ
  ·exact af.elim
 |_=>
  refine Yb c0 h ah aL ?_
  simpa only[db]using af
end
end RV
namespace RV
open Go Go.RowKit
section
variable {N:Nat} {aU:eW} {aP:Mem} {R:bU} {σ σ':St} {a:Act} {w w':World} {rd rd':Mem} {β β':bU} {P:Program} {Γ:Env} {ops:Array Oper}
inductive kC {α iF:Type} (r:α→iF→Prop):List α→List iF→Prop
 |nil:kC r [] []
 |cons {x:α} {y:iF} {xs:List α} {aB:List iF} :r x y→kC r xs aB→kC r (x::xs) (y::aB)
def iS (N:Nat) (aU:eW) (aP:Mem) (R:bU) (K:St→Prop) (a:Act) (w:World):Prop:=∃σ rd β,K σ∧bl N aU aP R σ a w rd β
theorem iS.mono {K fa:St→Prop} (af:∀σ,K σ→fa σ) (h:iS N aU aP R K a w):iS N aU aP R fa a w:=by
 obtain⟨σ,rd,β,h1,h2⟩:=h
 exact⟨σ,rd,β,af σ h1,h2⟩
theorem Km {M:Nat} (cb:N≤M) {d:Option Nat} (h:h8 N d=true):h8 M d=true:=by
 cases d with
 |none=>rfl
 |some d=>have:=XH h;simp[h8];omega
theorem Ke (h:bl N aU aP R σ a w rd β) {o:Oper} {g:Option (Nat×Bool)} (ah:G9 ops o.guard=some g) {yes no:Prop} (bh:guarded σ g yes no):
 (Region.wanted o (yielded ops a.tmps)=true∧yes)∨(Region.wanted o (yielded ops a.tmps)=false∧no):=by
 unfold G9 at ah
 split at ah
 ·rename_i aQ
  simp only[Option.some.injEq]at ah;subst ah
  left
  exact⟨by simp[Region.wanted,aQ],bh⟩
 ·rename_i j b aH
  split at ah
  ·rename_i d aL
   simp only[Option.some.injEq]at ah;subst ah
   simp only[guarded]at bh
   have ar:=h.eY d
   have hw:Region.wanted o (yielded ops a.tmps)=(yielded ops a.tmps j==some b):=by simp[Region.wanted,aH]
   rw[hw]
   split at bh
   ·rename_i c au
    rw[au]at ar
    simp only[aX,bA]at ar
    have hy:yielded ops a.tmps j=some c:=by
     unfold yielded
     rw[aL]
     simp only[Option.bind_some]
     rw[Array.getD_eq_getD_getElem?]at ar
     cases e:a.tmps[d]? with
     |none=>rw[e]at ar;cases ar
     |some v=>rw[e]at ar;simp only[Option.getD_some]at ar;subst ar;rfl
    rw[hy]
    by_cases MM:c=b
    ·left;exact⟨by simp[MM],bh.1 MM⟩
    ·right;exact⟨by simpa using MM,bh.2 (by cases c<;>cases b<;>first|rfl|exact absurd rfl MM)⟩
   ·rename_i au
    rw[au]at ar
    simp only[aX]at ar
    have hy:yielded ops a.tmps j=none:=by
     unfold yielded
     rw[aL]
     simp only[Option.bind_some]
     rw[Array.getD_eq_getD_getElem?]at ar
     cases e:a.tmps[d]? with
     |none=>rfl
     |some v=>rw[e]at ar;simp only[Option.getD_some]at ar;subst ar;rfl
    rw[hy]
    right;exact⟨rfl,bh⟩
   ·exact bh.elim
  ·cases ah
theorem Gs {o:Oper} {lo:bW} (h:sf P N ops o=some lo):∃l g,dV P o.type o.op=some l∧G9 ops o.guard=some g∧h8 N o.dst=true∧lo=⟨o.dst,l,g⟩:=by
 unfold sf at h
 split at h
 ·rename_i l g h1 h2
  split at h
  ·rename_i aq
   simp only[Option.some.injEq]at h
   exact⟨l,g,h1,h2,aq,h.symm⟩
  ·cases h
 ·cases h
theorem Kn (c0:ae P aP Γ) {M:Nat} (cb:M≤N) {K:St→Prop} {Q:Exit→Act→World→Prop} (cK:∀a w,iS N aU aP R K a w→Q .normal a w):
 ∀(is:List Nat) (ru:List bW),kC (fun i lo=>∃o,ops[i]? =some o∧sf P M ops o=some lo) is ru→
 ∀{σ:St} {a:Act} {w:World} {rd:Mem} {β:bU},bl N aU aP R σ a w rd β→eQ Γ K ru σ→wpOps P ops Q is a w
 |[],_,h=>fun au af=>by
  cases h
  exact cK _ _ ⟨_,_,_,af,au⟩
 |i::is,_,h=>fun au af=>by
  cases h with
  |cons hi ar=>
   obtain⟨o,bu,B1⟩:=hi
   obtain⟨l,g,h1,h2,aq,rfl⟩:=Gs B1
   simp only[eQ]at af
   simp only[wpOps,bu]
   have aL:=Km cb aq
   rcases Ke au h2 af with ⟨hw,af⟩|⟨hw,af⟩
   ·rw[if_pos hw]
    left
    exact O8 c0 au h1 aL af _ _ fun σ' ct w' rd' β' cn cT=>Kn c0 cb cK is _ ar cT cn
   ·rw[if_neg (by rw[hw];simp)]
    exact Kn c0 cb cK is _ ar (au.put aL (by simp only[aX])) af
theorem OC {M:Nat} :∀{os:List Oper} {ru:List bW},xP P M ops os=some ru→kC (fun o lo=>sf P M ops o=some lo) os ru
 |[],_,h=>by simp only[xP,Option.some.injEq]at h;subst h;exact .nil
 |o::os,_,h=>by
  simp only[xP]at h
  split at h
  ·rename_i x y h1 h2
   simp only[Option.some.injEq]at h;subst h
   exact .cons h1 (OC h2)
  ·cases h
theorem W0 {α iF:Type} {r:α→iF→Prop} :∀{xs:List α} {aB:List iF} (k:Nat) {all:List α},kC r xs aB→(∀j x,xs[j]? =some x→all[k+j]? =some x)→
 kC (fun i y=>∃x,all[i]? =some x∧r x y) (List.range' k xs.length) aB
 |_,_,k,_,.nil,_=> .nil
 |x::xs,y::aB,k,all,.cons h t,H=>by
  rw[List.length_cons,List.range'_succ]
  refine .cons ⟨x,by simpa using H 0 x rfl,h⟩ (W0 (k+1) t fun j z aH=> ?_)
  have:=H (j+1) z (by simpa using aH)
  rw[show k+1+j=k+(j+1)by omega];exact this
theorem Gn {M:Nat} {ru:List bW} (h:xP P M ops ops.toList=some ru):kC (fun i lo=>∃o,ops[i]? =some o∧sf P M ops o=some lo) (List.range ops.size) ru:=by
 have:=W0 0 (all:=ops.toList) (OC h) (fun j x aH=>by simpa using aH)
 rw[List.range_eq_range']
 simpa using this
end
end RV
namespace RV
open Go Go.RowKit
structure bD (T:(ai→Prop)→Prop):Prop where
 mono:∀K fa:ai→Prop,(∀v,K v→fa v)→T K→T fa
 one:∀K,T K→∃v,T (fun u=>u=v)∧K v
theorem bD.leaf (v:ai):bD fun K=>K v:=⟨fun _ _ h k=>h _ k,fun _ k=>⟨v,rfl,k⟩⟩
theorem bD.no:bD fun _=>False:=⟨fun _ _ _ k=>k,fun _ k=>k.elim⟩
theorem bD.and {p:Prop} {T:(ai→Prop)→Prop} (h:bD T):bD fun K=>p∧T K:=
 ⟨fun K fa af k=>⟨k.1,h.mono K fa af k.2⟩,fun K k=>by obtain⟨v,h1,h2⟩:=h.one K k.2;exact⟨v,⟨k.1,h1⟩,h2⟩⟩
theorem KA (k:IntKind) (z:Int):bD (arith k z):=by
 cases k<;>first|exact bD.leaf _|exact bD.and (bD.leaf _)
theorem aj6 (op:BinOp) (k:IntKind) (x y:Int):bD (Bp op k x y):=by
 cases op<;>first|exact KA _ _|exact bD.and (KA _ _)|exact bD.leaf _|exact bD.and (bD.leaf _)
theorem aj7 (op:BinOp) (x y:Nat):bD (Bq op x y):=by
 cases op<;>first|exact bD.leaf _|exact bD.no
theorem PO (o:Option ai):bD fun K=>match o with|some v=>K v|none=>False:=by
 cases o with
 |none=>exact bD.no
 |some v=>exact bD.leaf v
theorem aj8 (σ:St) (n:Nat) (g:Bool) (v:ai):bD (kv σ n g v):=by
 cases v with
 |d x=>
  cases x with
  |ptr cs=>cases g with
   |true=>exact bD.and (bD.leaf _)
   |false=>cases cs with
    |nil=>exact bD.no
    |cons d ds=>exact bD.leaf _
  |_=>exact bD.no
 |box i off=>
  show bD fun K=>kv σ n g (.box i off) K
  simp only[kv]
  cases σ.az i with
  |none=>exact bD.no
  |some b=>cases b with|mk f e c=>cases c with
   |cells cs=>cases g with
    |true=>exact bD.and (bD.leaf _)
    |false=>exact PO _
   |_=>exact bD.no
 |ea i j off=>
  show bD fun K=>kv σ n g (.ea i j off) K
  simp only[kv]
  cases σ.az i with
  |none=>exact bD.no
  |some b=>cases b with|mk f e c=>cases c with
   |cells cs=>exact bD.no
   |ints k xs=>exact bD.and (bD.and (bD.and (bD.leaf _)))
   |flts xs=>exact bD.and (bD.and (bD.and (bD.leaf _)))
   |recs sz xs=>cases g with
    |true=>exact bD.and (bD.and (bD.leaf _))
    |false=>
     refine bD.and ?_
     simp only[Bool.false_eq_true,if_false]
     cases (xs.getD j [])[off]? with
     |none=>exact bD.no
     |some d=>exact bD.leaf _
 |_=>exact bD.no
theorem akH (v:ai):bD (Dp v):=by
 cases v with
 |d x=>cases x<;>first|exact bD.leaf _|exact bD.no
 |own i lo n=>exact bD.leaf _
 |_=>exact bD.no
theorem ajs (σ:St) (sz:Nat) (v:ai) (i:Int):bD (wF σ sz v i):=by
 cases v with
 |d x=>cases x<;>first|exact bD.and (bD.and (bD.and (bD.leaf _)))|exact bD.no
 |own i lo n=>exact bD.and (bD.and (bD.and (bD.leaf _)))
 |_=>exact bD.no
theorem KB (d:Int) (v:Option ai) {T:Int→(ai→Prop)→Prop} (h:∀i,bD (T i)):bD fun K=>bound d v fun i=>T i K:=by
 cases v with
 |none=>exact h d
 |some v=>cases v with
  |d x=>cases x<;>first|exact h _|exact bD.no
  |_=>exact bD.no
theorem akI (σ:St) (sz:Nat) (v:ai) (lo hi:Option ai):bD (ss σ sz v lo hi):=by
 show bD fun K=>ss σ sz v lo hi K
 cases v with
 |d x=>cases x<;>simp only[ss]<;>first|exact bD.no|(refine KB _ _ fun l=>KB _ _ fun h=> ?_;exact bD.and (bD.and (bD.and (bD.and (bD.leaf _)))))
 |own i lo n=>simp only[ss];refine KB _ _ fun l=>KB _ _ fun h=> ?_;exact bD.and (bD.and (bD.and (bD.and (bD.leaf _))))
 |_=>exact bD.no
theorem aj9 (t:Bool) (x y:ai):bD fun K=>(t=true→K x)∧(t=false→K y):=by
 cases t
 ·exact⟨fun K fa h k=>⟨fun e=>Bool.noConfusion e,fun e=>h _ (k.2 e)⟩,fun K k=>⟨y,⟨fun e=>Bool.noConfusion e,fun _=>rfl⟩,k.2 rfl⟩⟩
 ·exact⟨fun K fa h k=>⟨fun e=>h _ (k.1 e),fun e=>Bool.noConfusion e⟩,fun K k=>⟨x,⟨fun _=>rfl,fun e=>Bool.noConfusion e⟩,k.1 rfl⟩⟩
theorem aka (C:hg) (σ:St) (vs:List ai):bD fun K=>wP C σ K vs:=by
 simp only[wP]
 split
 ·exact bD.and (bD.and (bD.leaf _))
 ·exact bD.no
theorem Ps (Γ:Env) (σ:St) (l:bJ):bD fun K=>bz Γ σ K l:=by
 cases l with
 |bj x=>exact bD.leaf _
 |pick c x y=>
  simp only[bz]
  generalize σ.a3 c=X
  cases X with
  |d z=>cases z<;>first|exact aj9 _ _ _|exact bD.no
  |_=>exact bD.no
 |load n g x=>exact aj8 _ _ _ _
 |xV x=>
  simp only[bz]
  generalize σ.a3 x=X
  cases X with
  |d z=>cases z<;>first|exact bD.leaf _|exact bD.no
  |_=>first|exact bD.leaf _|exact bD.no
 |bin op x y=>
  simp only[bz]
  generalize σ.a3 x=X
  generalize σ.a3 y=Y
  split
  ·exact bD.and (aj6 _ _ _ _)
  ·exact aj7 _ _ _
  ·exact bD.no
 |w1 ne x y=>
  simp only[bz]
  generalize (σ.a3 x).pair=X
  generalize (σ.a3 y).pair=Y
  split
  ·exact bD.leaf _
  ·exact bD.no
 |qW ne x y=>
  simp only[bz]
  generalize σ.a3 x=X
  generalize σ.a3 y=Y
  split
  ·exact bD.leaf _
  ·exact bD.no
 |un op x=>
  simp only[bz]
  generalize σ.a3 x=X
  split
  ·exact bD.leaf _
  ·exact KA _ _
  ·exact bD.leaf _
  ·exact bD.no
 |conv k x=>
  simp only[bz]
  generalize σ.a3 x=X
  split
  ·exact KA _ _
  ·exact bD.no
 |wJ x=>
  simp only[bz]
  generalize σ.a3 x=X
  split
  ·exact bD.leaf _
  ·exact bD.leaf _
  ·exact bD.no
 |dD off x=>
  simp only[bz]
  generalize σ.a3 x=X
  split<;>first|exact bD.leaf _|exact bD.no
 |zI off n g x=>
  simp only[bz]
  generalize σ.a3 x=X
  split
  ·cases g with
   |true=>exact bD.and (bD.leaf _)
   |false=>exact PO _
  ·exact bD.no
 |u4 sz x i=>
  simp only[bz]
  generalize σ.a3 i=X
  split
  ·exact ajs _ _ _ _
  ·exact bD.no
 |y8 len sz x i=>
  simp only[bz]
  generalize σ.a3 x=X
  generalize σ.a3 i=Y
  split
  ·exact bD.and (bD.and (bD.leaf _))
  ·exact bD.and (bD.and (bD.leaf _))
  ·exact bD.no
 |idx len n g x i=>
  simp only[bz]
  generalize σ.a3 x=X
  generalize σ.a3 i=Y
  split
  ·cases g with
   |true=>exact bD.and (bD.and (bD.and (bD.leaf _)))
   |false=>exact bD.and (bD.and (PO _))
  ·exact bD.no
 |sr i x=>
  simp only[bz]
  generalize σ.a3 x=X
  split
  ·split
   ·exact bD.leaf _
   ·exact bD.no
  ·exact bD.no
 |len x=>exact akH _
 |pS x y=>
  simp only[bz]
  generalize σ.a3 x=X
  generalize σ.a3 y=Y
  split
  ·exact bD.leaf _
  ·exact bD.no
 |Ak x y=>
  simp only[bz]
  generalize σ.a3 x=X
  generalize σ.a3 y=Y
  split
  ·exact bD.leaf _
  ·exact bD.no
 |zJ sz x lo hi=>exact akI _ _ _ _ _
 |build zero parts=>
  simp only[bz]
  split
  ·exact bD.leaf _
  ·exact bD.no
 |hU ek parts=>
  simp only[bz]
  refine bD.and ?_
  split
  ·split
   ·exact bD.leaf _
   ·exact bD.no
  ·exact bD.no
 |zh f x y=>
  simp only[bz]
  split
  ·split
   ·exact bD.leaf _
   ·exact bD.no
  ·exact bD.leaf _
 |call f as=>
  simp only[bz]
  split
  ·exact bD.and (bD.and (bD.leaf _))
  ·exact bD.no
 |hS x as=>
  simp only[bz]
  split
  ·split
   ·exact bD.and (bD.and (bD.leaf _))
   ·exact bD.no
  ·split
   ·exact aka _ _ _
   ·exact bD.no
  ·exact bD.no
 |_=>exact bD.no
theorem KL (σ:St) (l:bJ) (i:Nat) (K:ai→cr→Prop):made σ l K i↔∃v b,made σ l (fun fb g2=>fb=v∧g2=b) i∧K v b:=by
 cases l with
 |rq ek z n=>
  simp only[made]
  generalize σ.a3 n=X
  cases X with
  |d x=>cases x with
   |int k m=>
    simp only
    cases uT ek z m.toNat with
    |none=>simp
    |some c=>constructor
             ·rintro⟨h1,h2,aq⟩;exact⟨_,_,⟨h1,h2,rfl,rfl⟩,aq⟩
             ·rintro⟨_,_,⟨h1,h2,rfl,rfl⟩,aq⟩;exact⟨h1,h2,aq⟩
   |_=>simp
  |_=>simp
 |alloc z=>simp only[made];constructor
           ·intro h;exact⟨_,_,⟨rfl,rfl⟩,h⟩
           ·rintro⟨_,_,⟨rfl,rfl⟩,h⟩;exact h
 |nil ek=>simp only[made];constructor
          ·intro h;exact⟨_,_,⟨rfl,rfl⟩,h⟩
          ·rintro⟨_,_,⟨rfl,rfl⟩,h⟩;exact h
 |box x=>simp only[made];constructor
         ·rintro⟨h1,h⟩;exact⟨_,_,⟨h1,rfl,rfl⟩,h⟩
         ·rintro⟨_,_,⟨h1,rfl,rfl⟩,h⟩;exact⟨h1,h⟩
 |_=>simp[made]
theorem XQ (σ:St) (n:Nat) (x y:bB) (K:Nat→cr→Prop):stored σ n x y K↔∃i b,stored σ n x y (fun pU g2=>pU=i∧g2=b)∧K i b:=by
 cases x with
 |c d=>simp[stored]
 |t p=>
  simp only[stored]
  generalize σ.a3 (.t p)=X
  cases X with
  |box i off=>
   simp only
   generalize σ.az i=B
   rcases B with _|⟨f,e,c⟩
   ·simp
   ·cases f with
    |true=>simp
    |false=>
     simp only
     cases se c off (σ.a3 y).cells with
     |none=>simp
     |some c'=>
      constructor
      ·rintro⟨h1,h2,aq,aE⟩;exact⟨_,_,⟨h1,h2,aq,rfl,rfl⟩,aE⟩
      ·rintro⟨_,_,⟨h1,h2,aq,rfl,rfl⟩,aE⟩;exact⟨h1,h2,aq,aE⟩
  |_=>simp
theorem ain (σ:St) (n:Nat) (x y:bB) (K:Nat→cr→Prop):wB σ n x y K↔∃i b,wB σ n x y (fun pU g2=>pU=i∧g2=b)∧K i b:=by
 simp only[wB]
 generalize σ.a3 x=X
 cases X with
 |box i off=>
  simp only
  generalize σ.az i=B
  rcases B with _|⟨f,e,c⟩
  ·simp
  ·cases f with
   |true=>simp
   |false=>
    simp only
    cases se c off (σ.a3 y).cells with
    |none=>simp
    |some c'=>
     constructor
     ·rintro⟨h2,aq,aE⟩;exact⟨_,_,⟨h2,aq,rfl,rfl⟩,aE⟩
     ·rintro⟨_,_,⟨h2,aq,rfl,rfl⟩,aE⟩;exact⟨h2,aq,aE⟩
 |ea i j off=>
  simp only
  generalize σ.az i=B
  rcases B with _|⟨f,e,c⟩
  ·simp
  ·cases f with
   |true=>simp
   |false=>
    simp only
    cases uU c j off (σ.a3 y).cells with
    |none=>simp
    |some c'=>
     constructor
     ·rintro⟨h2,aq,aE⟩;exact⟨_,_,⟨h2,aq,rfl,rfl⟩,aE⟩
     ·rintro⟨_,_,⟨h2,aq,rfl,rfl⟩,aE⟩;exact⟨h2,aq,aE⟩
 |_=>simp
theorem Gt (ck:List Nat) (σ:St) (n:Nat) (x y:bB) (K:Nat→cr→Prop):uO ck σ n x y K↔∃i b,uO ck σ n x y (fun pU g2=>pU=i∧g2=b)∧K i b:=by
 cases ck with
 |nil=>exact ain ..
 |cons _ _=>exact XQ ..
end RV
namespace RV
open Go Go.RowKit
structure lf (σ σ':St) (xs:List bB):Prop where
 a3:∀x∈xs,σ'.a3 x=σ.a3 x
 az:∀j,ai.cY j (cG σ xs)=true→σ'.az j=σ.az j
section
variable {σ σ':St} {Γ:Env} {K:ai→Prop}
theorem KM {j:Nat} {v:ai} :∀{vs:List ai},v∈vs→v.has j=true→ai.cY j vs=true
 |[],h,_=>by cases h
 |x::xs,h,aH=>by
  simp only[ai.cY,Bool.or_eq_true]
  rcases List.mem_cons.1 h with rfl|h
  ·exact .inl aH
  ·exact .inr (KM h aH)
theorem YM {j:Nat} :∀{vs us:List ai},(∀v∈vs,v∈us)→ai.cY j vs=true→ai.cY j us=true
 |[],_,_,h=>by simp[ai.cY]at h
 |x::xs,us,aG,h=>by
  simp only[ai.cY,Bool.or_eq_true]at h
  rcases h with h|h
  ·exact KM (aG x (by simp)) h
  ·exact YM (fun v aC=>aG v (by simp[aC])) h
theorem lf.one {xs:List bB} (h:lf σ σ' xs) {x:bB} (aj:x∈xs):∀j,(σ.a3 x).has j=true→σ'.az j=σ.az j:=
 fun j aH=>h.az j (KM (List.mem_map.2 ⟨x,aj,rfl⟩) aH)
theorem lf.sub {xs aB:List bB} (h:lf σ σ' xs) (aG:∀y∈aB,y∈xs):lf σ σ' aB:=
 ⟨fun x aj=>h.a3 x (aG x aj),fun j aH=>h.az j (YM (fun v aC=>by
  obtain⟨y,hy,rfl⟩:=List.mem_map.1 aC
  exact List.mem_map.2 ⟨y,aG y hy,rfl⟩) aH)⟩
theorem lf.cG {xs:List bB} (h:lf σ σ' xs):cG σ' xs=cG σ xs:=List.map_congr_left h.a3
mutual
theorem toD_local:∀(v:ai),(∀j,v.has j=true→σ'.az j=σ.az j)→toD σ' v=toD σ v
 | .d _,_=>rfl
 | .agg cs,h=>by simp only[toD,toDs_local cs (fun j aH=>h j (by simpa [ai.has]using aH))]
 | .own i lo n,h=>by simp only[toD,h i (by simp[ai.has])]
 | .box i 0,h=>by simp only[toD,h i (by simp[ai.has])]
 | .box i (n+1),_=>rfl
 | .ea _ _ _,_=>rfl
 | .dr f x y,h=>by simp only[toD,toDs_local x (fun j aH=>h j (by simp[ai.has,aH])),toDs_local y (fun j aH=>h j (by simp[ai.has,aH]))]
 | .dF _,_=>rfl
 | .dt,_=>rfl
 | .any,_=>rfl
theorem toDs_local:∀(vs:List ai),(∀j,ai.cY j vs=true→σ'.az j=σ.az j)→toDs σ' vs=toDs σ vs
 |[],_=>rfl
 |v::vs,h=>by simp only[toDs,toD_local v (fun j aH=>h j (by simp[ai.cY,aH])),toDs_local vs (fun j aH=>h j (by simp[ai.cY,aH]))]
end
theorem aiM {v:ai} (h:∀j,v.has j=true→σ'.az j=σ.az j) (n:Nat) (g:Bool):kv σ' n g v K=kv σ n g v K:=by
 cases v with
 |box i off=>simp only[kv,h i (by simp[ai.has])]
 |ea i j off=>simp only[kv,h i (by simp[ai.has])]
 |d x=>cases x<;>rfl
 |_=>rfl
theorem aio {v:ai} (h:∀j,v.has j=true→σ'.az j=σ.az j) (sz:Nat) (i:Int):wF σ' sz v i K=wF σ sz v i K:=by
 cases v with
 |own b lo n=>simp only[wF,h b (by simp[ai.has])]
 |d x=>cases x<;>rfl
 |_=>rfl
theorem ajt {v:ai} (h:∀j,v.has j=true→σ'.az j=σ.az j) (sz:Nat) (lo hi:Option ai):ss σ' sz v lo hi K=ss σ sz v lo hi K:=by
 cases v with
 |own b l n=>simp only[ss,h b (by simp[ai.has])]
 |d x=>cases x<;>rfl
 |_=>rfl
theorem Xg:∀{l:List Nat} {i:Nat},i∈distinct l→i∈l
 |[],_,h=>by cases h
 |x::xs,i,h=>by
  simp only[distinct,List.mem_cons,List.mem_filter]at h⊢
  rcases h with h|h
  ·exact .inl h
  ·exact .inr (Xg h.1)
mutual
theorem akJ:∀(v:ai) (i:Nat),i∈v.ids→v.has i=true
 | .d _,i,h=>by simp[ai.ids]at h
 | .agg cs,i,h=>by simp only[ai.ids]at h;simp only[ai.has];exact GN cs i h
 | .box j _,i,h=>by simp only[ai.ids,List.mem_singleton]at h;simp[ai.has,h]
 | .own j _ _,i,h=>by simp only[ai.ids,List.mem_singleton]at h;simp[ai.has,h]
 | .ea j _ _,i,h=>by simp only[ai.ids,List.mem_singleton]at h;simp[ai.has,h]
 | .dr _ x y,i,h=>by
   simp only[ai.ids,List.mem_append]at h
   simp only[ai.has,Bool.or_eq_true]
   rcases h with h|h
   ·exact .inl (GN x i h)
   ·exact .inr (GN y i h)
 | .dF _,i,h=>by simp[ai.ids]at h
 | .dt,i,h=>by simp[ai.ids]at h
 | .any,i,h=>by simp[ai.ids]at h
theorem GN:∀(vs:List ai) (i:Nat),i∈ai.ic vs→ai.cY i vs=true
 |[],i,h=>by simp[ai.ic]at h
 |v::vs,i,h=>by
  simp only[ai.ic,List.mem_append]at h
  simp only[ai.cY,Bool.or_eq_true]
  rcases h with h|h
  ·exact .inl (akJ v i h)
  ·exact .inr (GN vs i h)
end
theorem W1 {p:Nat→Bool} :∀(is:List Nat),(∀i∈is,σ'.az i=σ.az i)→contents σ' p is=contents σ p is
 |[],_=>rfl
 |i::r,h=>by
  simp only[contents,h i (by simp),W1 r (fun j aH=>h j (by simp[aH]))]
theorem aiN {l:bJ} (h:lf σ σ' l.ops):bz Γ σ' K l=bz Γ σ K l:=by
 cases l with
 |bj x=>simp only[bz,h.a3 x (by simp[bJ.ops])]
 |pick c x y=>simp only[bz,h.a3 c (by simp[bJ.ops]),h.a3 x (by simp[bJ.ops]),h.a3 y (by simp[bJ.ops])]
 |load n g x=>simp only[bz,h.a3 x (by simp[bJ.ops])];exact aiM (h.one (by simp[bJ.ops])) _ _
 |xV x=>simp only[bz,h.a3 x (by simp[bJ.ops])]
 |bin op x y=>simp only[bz,h.a3 x (by simp[bJ.ops]),h.a3 y (by simp[bJ.ops])]
 |w1 ne x y=>simp only[bz,h.a3 x (by simp[bJ.ops]),h.a3 y (by simp[bJ.ops])]
 |qW ne x y=>simp only[bz,h.a3 x (by simp[bJ.ops]),h.a3 y (by simp[bJ.ops])]
 |un op x=>simp only[bz,h.a3 x (by simp[bJ.ops])]
 |conv k x=>simp only[bz,h.a3 x (by simp[bJ.ops])]
 |wJ x=>simp only[bz,h.a3 x (by simp[bJ.ops])]
 |dD off x=>simp only[bz,h.a3 x (by simp[bJ.ops])]
 |zI off n g x=>simp only[bz,h.a3 x (by simp[bJ.ops])]
 |u4 sz x i=>
  simp only[bz,h.a3 x (by simp[bJ.ops]),h.a3 i (by simp[bJ.ops])]
  split
  ·exact aio (h.one (by simp[bJ.ops])) _ _
  ·rfl
 |y8 len sz x i=>simp only[bz,h.a3 x (by simp[bJ.ops]),h.a3 i (by simp[bJ.ops])]
 |idx len n g x i=>simp only[bz,h.a3 x (by simp[bJ.ops]),h.a3 i (by simp[bJ.ops])]
 |sr i x=>simp only[bz,h.a3 x (by simp[bJ.ops])]
 |len x=>simp only[bz,h.a3 x (by simp[bJ.ops])]
 |pS x y=>simp only[bz,h.a3 x (by simp[bJ.ops]),h.a3 y (by simp[bJ.ops])]
 |Ak x y=>simp only[bz,h.a3 x (by simp[bJ.ops]),h.a3 y (by simp[bJ.ops])]
 |zJ sz x lo hi=>
  have ln:lo.map σ'.a3=lo.map σ.a3:=by
   cases lo with
   |none=>rfl
   |some y=>simp only[Option.map_some,h.a3 y (by simp[bJ.ops])]
  have sO:hi.map σ'.a3=hi.map σ.a3:=by
   cases hi with
   |none=>rfl
   |some y=>simp only[Option.map_some,h.a3 y (by simp[bJ.ops])]
  simp only[bz,h.a3 x (by simp[bJ.ops]),ln,sO]
  exact ajt (h.one (by simp[bJ.ops])) _ _ _
 |build zero parts=>
  have:(parts.map fun p=>(p.1,p.2.1,σ'.a3 p.2.2))=parts.map fun p=>(p.1,p.2.1,σ.a3 p.2.2):=List.map_congr_left fun p a1=>by
   rw[h.a3 p.2.2 (List.mem_map.2 ⟨p,a1,rfl⟩)]
  simp only[bz,this]
 |hU ek parts=>
  have aw:=toDs_local (σ:=σ) (σ':=σ') (cG σ parts) h.az
  have aJ:cG σ' parts=cG σ parts:=h.cG
  simp only[bz,aJ,aw]
 |zh f x y=>
  have h1:lf σ σ' x:=h.sub (fun z br=>by simp[bJ.ops,br])
  have h2:lf σ σ' y:=h.sub (fun z br=>by simp[bJ.ops,br])
  simp only[bz,h1.cG,h2.cG,toDs_local (σ:=σ) (σ':=σ') (cG σ x) h1.az,toDs_local (σ:=σ) (σ':=σ') (cG σ y) h2.az]
 |call f as=>
  have aJ:cG σ' as=cG σ as:=h.cG
  simp only[bz,aJ,toDs_local (σ:=σ) (σ':=σ') (cG σ as) h.az]
 |hS x as=>
  have h2:lf σ σ' as:=h.sub (fun z br=>by simp[bJ.ops,br])
  have aw:∀f u v,σ.a3 x= .dr f u v→∀C:hg,wP C σ' K (u++cG σ as++v)=wP C σ K (u++cG σ as++v):=by
   intro f u v e C
   have au:contents σ' (fun _=>false) (distinct (ai.ic (u++cG σ as++v)))=contents σ (fun _=>false) (distinct (ai.ic (u++cG σ as++v))):=by
    refine W1 _ fun i hi=> ?_
    have hi:=GN _ i (Xg hi)
    rw[OA,OA]at hi
    simp only[Bool.or_eq_true]at hi
    rcases hi with (hi|hi)|hi
    ·exact h.az i (by simp only[bJ.ops,cG,List.map_cons,ai.cY,e,ai.has,hi,Bool.true_or])
    ·exact h.az i (by simp only[bJ.ops,cG,List.map_cons,ai.cY];rw[show ai.cY i (List.map σ.a3 as)=true from hi,Bool.or_true])
    ·exact h.az i (by simp only[bJ.ops,cG,List.map_cons,ai.cY,e,ai.has,hi,Bool.true_or,Bool.or_true])
   simp only[wP,au]
  simp only[bz,h.a3 x (by simp[bJ.ops]),h2.cG,toDs_local (σ:=σ) (σ':=σ') (cG σ as) h2.az]
  split
  ·rfl
  ·rename_i f u v e
   split
   ·exact aw f u v e _
   ·rfl
  ·rfl
 |_=>rfl
theorem aiO {l:bJ} (h:lf σ σ' l.ops) {K:ai→cr→Prop} {i:Nat} :made σ' l K i=made σ l K i:=by
 cases l with
 |box x=>simp only[made,h.a3 x (by simp[bJ.ops])]
 |rq ek z n=>simp only[made,h.a3 n (by simp[bJ.ops])]
 |_=>rfl
theorem ah1 {n:Nat} {x y:bB} (h:lf σ σ' [x,y]) {K:Nat→cr→Prop} :stored σ' n x y K=stored σ n x y K:=by
 cases x with
 |c d=>rfl
 |t p=>
  have h1:=h.a3 (.t p) (by simp)
  have h2:=h.a3 y (by simp)
  have aq:=h.one (x:= .t p) (by simp)
  simp only[stored,h1,h2]
  generalize σ.a3 (.t p)=X at aq
  cases X with
  |box i off=>simp only[aq i (by simp[ai.has])]
  |_=>rfl
theorem ahT {n:Nat} {x y:bB} (h:lf σ σ' [x,y]) {K:Nat→cr→Prop} :wB σ' n x y K=wB σ n x y K:=by
 have h1:=h.a3 x (by simp)
 have h2:=h.a3 y (by simp)
 have aq:=h.one (x:=x) (by simp)
 simp only[wB,h1,h2]
 generalize σ.a3 x=X at aq
 cases X with
 |box i off=>simp only[aq i (by simp[ai.has])]
 |ea i j off=>simp only[aq i (by simp[ai.has])]
 |_=>rfl
theorem ahU {ck:List Nat} {n:Nat} {x y:bB} (h:lf σ σ' [x,y]) {K:Nat→cr→Prop} :uO ck σ' n x y K=uO ck σ n x y K:=by
 cases ck with
 |nil=>exact ahT h
 |cons _ _=>exact ah1 h
end
end RV
namespace RV
open Go Go.RowKit
def qZ (σ:St) (g:Option (Nat×Bool)):Option Bool:=
 match g with
 |none=>some true
 |some (t,w)=>match σ.ag t with
  | .d (.bool b)=>some (b==w)
  | .dt=>some false
  |_=>none
def app (cv:Option (Nat×cr)) (dst:Option Nat) (v:ai) (σ:St):St:=
 (match cv with|some (i,b)=>σ.eF i b|none=>σ).put dst v
def wR (Γ:Env) (dst:Option Nat) (op:bJ) (σ:St) (cv:Option (Nat×cr)) (v:ai):Prop:=
 if op.makes=true then Dc dst fun i=>σ.az i=none∧made σ op (fun fb b=>fb=v∧cv=some (i,b)) i else cv=none∧bz Γ σ (fun u=>u=v) op
def zU (Γ:Env) (o:bW) (ck:List Nat) (σ:St) (cv:Option (Nat×cr)) (v:ai):Prop:=
 match o.op with
 | .store n a x=>o.dst=none∧v= .dt∧uO ck σ n a x fun i b=>cv=some (i,b)
 |op=>wR Γ o.dst op σ cv v
def sk (Γ:Env) (o:bW) (ck:List Nat) (σ:St) (cv:Option (Nat×cr)) (v:ai):Prop:=
 match qZ σ o.guard with
 |some true=>AW ck (cG σ o.op.ops)=true∧zU Γ o ck σ cv v
 |some false=>cv=none∧v= .dt
 |none=>False
section
variable {Γ:Env} {σ σ':St} {K:St→Prop}
theorem yM (g:Option (Nat×Bool)) (yes no:Prop):guarded σ g yes no↔(qZ σ g=some true∧yes)∨(qZ σ g=some false∧no):=by
 cases g with
 |none=>simp[guarded,qZ]
 |some xo=>
  obtain⟨t,w⟩:=xo
  simp only[guarded,qZ]
  generalize σ.ag t=X
  cases X with
  |d x=>cases x with
   |bool b=>cases b<;>cases w<;>simp
   |_=>simp
  |_=>simp
theorem Yc (dst:Option Nat) (op:bJ):su Γ dst op σ K↔∃cv v,wR Γ dst op σ cv v∧K (app cv dst v σ):=by
 unfold su wR
 by_cases hm:op.makes=true
 ·simp only[hm,if_true]
  cases dst with
  |none=>simp[Dc]
  |some i=>
   simp only[Dc]
   rw[KL]
   constructor
   ·rintro⟨h1,v,b,h2,aq⟩
    refine⟨some (i,b),v,⟨h1,?_⟩,aq⟩
    rw[KL]
    exact⟨v,b,h2,rfl,rfl⟩
   ·rintro⟨cv,v,⟨h1,h2⟩,aq⟩
    rw[KL]at h2
    obtain⟨fb,b,h2,rfl,rfl⟩:=h2
    exact⟨h1,_,b,h2,aq⟩
 ·simp only[hm,Bool.false_eq_true,if_false]
  constructor
  ·intro h
   obtain⟨v,h1,h2⟩:=(Ps Γ σ op).one _ h
   exact⟨none,v,⟨rfl,h1⟩,h2⟩
  ·rintro⟨cv,v,⟨rfl,h1⟩,h2⟩
   exact(Ps Γ σ op).mono _ _ (fun u hu=>by subst hu;exact h2) h1
def C6 (Γ:Env) (o:bW) (ck:List Nat):Prop:=match o.op,ck with
 | .call f _,[]=>Γ.mt f=none
 |_,_=>True
theorem akb {o:bW} {ck:List Nat} (h:o.jU=true):C6 Γ o ck:=by
 cases o with|mk dst op g=>
 cases op<;>first|trivial|cases h
theorem YN {o:bW} {ck:List Nat} (h:o.AY=true→ck≠[]):C6 Γ o ck:=by
 cases o with|mk dst op g=>
 cases op with
 |call f as=>
  cases ck with
  |nil=>exact absurd rfl (h rfl)
  |cons _ _=>trivial
 |_=>trivial
theorem akK (o:bW) (ck:List Nat) (a1:C6 Γ o ck):tU Γ o ck σ K↔AW ck (cG σ o.op.ops)=true∧∃cv v,zU Γ o ck σ cv v∧K (app cv o.dst v σ):=by
 unfold tU
 refine and_congr_right fun _=> ?_
 cases o with|mk dst op g=>
 cases op with
 |store n a x=>
  simp only[zU]
  constructor
  ·rintro⟨rfl,h⟩
   rw[Gt]at h
   obtain⟨i,b,h1,h2⟩:=h
   refine⟨some (i,b),.dt,⟨rfl,rfl,?_⟩,h2⟩
   rw[Gt]
   exact⟨i,b,h1,rfl⟩
  ·rintro⟨cv,v,⟨rfl,rfl,h⟩,h2⟩
   rw[Gt]at h
   obtain⟨i,b,h1,rfl⟩:=h
   refine⟨rfl,?_⟩
   rw[Gt]
   exact⟨i,b,h1,h2⟩
 |call f as=>
  have e:za Γ dst ck σ K f as=su Γ dst (.call f as) σ K:=by
   unfold za
   cases ck with
   |nil=>simp only[C6]at a1;rw[a1]
   |cons _ _=>rfl
  simp only[e]
  exact Yc _ _
 |_=>exact Yc _ _
theorem tl (o:bW) (ck:List Nat) (r:List (bW×List Nat)) (a1:C6 Γ o ck):c2 Γ K ((o,ck)::r) σ↔∃cv v,sk Γ o ck σ cv v∧c2 Γ K r (app cv o.dst v σ):=by
 simp only[c2]
 rw[yM,akK _ _ a1]
 unfold sk
 constructor
 ·rintro(⟨h1,h2,cv,v,aq,aE⟩|⟨h1,h2⟩)
  ·exact⟨cv,v,by rw[h1];exact⟨h2,aq⟩,aE⟩
  ·exact⟨none,.dt,by rw[h1];exact⟨rfl,rfl⟩,h2⟩
 ·rintro⟨cv,v,h1,h2⟩
  split at h1
  ·rename_i e
   exact .inl ⟨e,h1.1,cv,v,h1.2,h2⟩
  ·rename_i e
   obtain⟨rfl,rfl⟩:=h1
   exact .inr ⟨e,h2⟩
  ·exact h1.elim
theorem Gu {dst:Option Nat} {op:bJ} {i:Nat} {b:cr} {v:ai} (h:wR Γ dst op σ (some (i,b)) v):op.makes=true∧dst=some i∧σ.az i=none:=by
 unfold wR at h
 by_cases hm:op.makes=true
 ·simp only[hm,if_true]at h
  cases dst with
  |none=>exact h.elim
  |some j=>
   obtain⟨h1,h2⟩:=h
   rw[KL]at h2
   obtain⟨_,_,_,_,aq⟩:=h2
   simp only[Option.some.injEq,Prod.mk.injEq]at aq
   obtain⟨rfl,_⟩:=aq
   exact⟨hm,rfl,h1⟩
 ·simp only[hm,Bool.false_eq_true,if_false]at h
  cases h.1
theorem Xt {n:Nat} {a x:bB} {K:Nat→cr→Prop} (h:stored σ n a x K):∃p off,a= .t p∧σ.a3 a= .box p off:=by
 cases a with
 |c d=>simp[stored]at h
 |t p=>
  simp only[stored]at h
  split at h
  ·rename_i dH i off a1 aC
   obtain⟨rfl,_⟩:=h
   simp only[bB.t.injEq]at a1
   subst a1
   exact⟨_,off,rfl,aC⟩
  ·exact h.elim
theorem aiP {o:bW} {ck:List Nat} {cv:Option (Nat×cr)} {v:ai} (S8:o.AY=true→ck≠[]) (h:zU Γ o ck σ cv v):∀i b,cv=some (i,b)→i∈o.writes:=by
 intro i b e
 subst e
 cases o with|mk dst op g=>
 cases op with
 |store n a x=>
  simp only[zU]at h
  obtain⟨rfl,rfl,h⟩:=h
  have eZ:=S8 rfl
  cases ck with
  |nil=>exact absurd rfl eZ
  |cons _ _=>
  simp only[uO]at h
  rw[XQ]at h
  obtain⟨pU,g2,h1,h2⟩:=h
  obtain⟨p,off,rfl,a1⟩:=Xt h1
  simp only[stored,a1]at h1
  obtain⟨_,h1⟩:=h1
  split at h1
  ·obtain⟨_,_,h1⟩:=h1
   split at h1
   ·simp only[Option.some.injEq,Prod.mk.injEq]at h2
    simp[bW.writes,h2.1,←h1.1]
   ·exact h1.elim
  ·exact h1.elim
 |alloc z=>obtain⟨_,e,_⟩:=Gu h;simp only at e;subst e;simp[bW.writes,bJ.makes]
 |box z=>obtain⟨_,e,_⟩:=Gu h;simp only at e;subst e;simp[bW.writes,bJ.makes]
 |rq _ _ z=>obtain⟨_,e,_⟩:=Gu h;simp only at e;subst e;simp[bW.writes,bJ.makes]
 |nil z=>obtain⟨_,e,_⟩:=Gu h;simp only at e;subst e;simp[bW.writes,bJ.makes]
 |_=>exact absurd (Gu h).1 (by simp[bJ.makes])
structure Alike (o:bW) (ck:List Nat) (σ σ':St):Prop where
 ops:∀t,bB.t t∈o.op.ops→σ'.ag t=σ.ag t
 Wq:∀t w,o.guard=some (t,w)→σ'.ag t=σ.ag t
 az:∀j,j∉ck∨j∈o.writes→σ'.az j=σ.az j
theorem Alike.same {o:bW} {ck:List Nat} (h:Alike o ck σ σ') (rv:AW ck (cG σ o.op.ops)=true):lf σ σ' o.op.ops:=by
 refine⟨fun x aj=> ?_,fun j aH=>h.az j (.inl fun aQ=> ?_)⟩
 ·cases x with
  |t t=>exact h.ops t aj
  |c d=>rfl
 ·simp only[AW,List.all_eq_true]at rv
  have:=rv j aQ
  rw[aH]at this;cases this
theorem Kf {o:bW} {ck:List Nat} {cv:Option (Nat×cr)} {v:ai} (h:Alike o ck σ σ') (aG:sk Γ o ck σ cv v):sk Γ o ck σ' cv v:=by
 unfold sk at*
 have bh:qZ σ' o.guard=qZ σ o.guard:=by
  cases Ip:o.guard with
  |none=>rfl
  |some xo=>simp only[qZ,h.Wq xo.1 xo.2 Ip]
 rw[bh]
 split at aG
 ·obtain⟨rv,aG⟩:=aG
  have Bc:=h.same rv
  refine⟨by rw[Bc.cG];exact rv,?_⟩
  have amH:∀{dst:Option Nat} {op:bJ},lf σ σ' op.ops→(∀i,op.makes=true→dst=some i→σ'.az i=σ.az i)→wR Γ dst op σ cv v→wR Γ dst op σ' cv v:=by
   intro dst op afw aw h1
   unfold wR at*
   by_cases hm:op.makes=true
   ·simp only[hm,if_true]at h1⊢
    cases dst with
    |none=>exact h1
    |some i=>exact⟨by rw[aw i hm rfl];exact h1.1,by rw[aiO afw];exact h1.2⟩
   ·simp only[hm,Bool.false_eq_true,if_false]at h1⊢
    exact⟨h1.1,by rw[aiN afw];exact h1.2⟩
  have j1:∀i,o.op.makes=true→o.dst=some i→σ'.az i=σ.az i:=fun i hm aL=>h.az i (.inr (by
   cases o with|mk dst op g=>
   simp only at aL hm
   subst aL
   cases op<;>first|(simp[bW.writes,bJ.makes];done)|(simp[bJ.makes]at hm;done)))
  cases o with|mk dst op g=>
  cases op with
  |store n a x=>
   simp only[zU]at aG⊢
   exact⟨aG.1,aG.2.1,by rw[ahU (Bc.sub (by simp[bJ.ops]))];exact aG.2.2⟩
  |_=>exact amH Bc j1 aG
 ·exact aG
 ·exact aG.elim
theorem Xh {o:bW} {ck:List Nat} {cv:Option (Nat×cr)} {v:ai} (S8:o.AY=true→ck≠[]) (h:sk Γ o ck σ cv v):∀i b,cv=some (i,b)→i∈o.writes:=by
 unfold sk at h
 split at h
 ·exact aiP S8 h.2
 ·intro i b e;rw[h.1]at e;cases e
 ·exact h.elim
theorem qQ (cv:Option (Nat×cr)) (dst:Option Nat) (v:ai) (σ:St) (t:Nat) (h:dst≠some t):(app cv dst v σ).ag t=σ.ag t:=by
 unfold app
 rw[fO,if_neg h]
 cases cv<;>rfl
theorem u2 (cv:Option (Nat×cr)) (dst:Option Nat) (v:ai) (σ:St) (j:Nat):(app cv dst v σ).az j=match cv with|some (i,b)=>if j=i then some b else σ.az j|none=>σ.az j:=by
 unfold app
 rw[p5]
 cases cv<;>rfl
theorem aju {cv:Option (Nat×cr)} {dst:Option Nat} {v:ai} {σ:St} {j:Nat} (h:∀i b,cv=some (i,b)→j≠i):(app cv dst v σ).az j=σ.az j:=by
 rw[u2]
 cases cv with
 |none=>rfl
 |some Cu=>simp only;rw[if_neg (h Cu.1 Cu.2 rfl)]
theorem tk {o:bW} {t:Nat} (h:bB.t t∈o.op.ops):t∈o.qR:=by
 simp only[bW.qR,List.mem_append,List.mem_filterMap]
 exact .inr (.inl ⟨.t t,h,rfl⟩)
theorem r3 {o:bW} {t:Nat} {w:Bool} (h:o.guard=some (t,w)):t∈o.qR:=by
 simp only[bW.qR,List.mem_append,h]
 exact .inr (.inr (by simp))
theorem Ax {o:bW} {t:Nat} (h:o.dst=some t):t∈o.qR:=by
 simp only[bW.qR,List.mem_append,h]
 exact .inl (by simp)
structure zm (x y:bW) (fc ny:List Nat):Prop where
 kT:∀d,x.dst=some d→d∉y.qR
 kU:∀d,y.dst=some d→d∉x.qR
 ww:∀d∈x.writes,d∉y.writes
 Wr:x.AY=true→fc≠[]
 Ws:y.AY=true→ny≠[]
 fc:∀d∈y.writes,d∈fc
 ny:∀d∈x.writes,d∈ny
theorem zm.symm {x y:bW} {fc ny:List Nat} (h:zm x y fc ny):zm y x ny fc:=⟨h.kU,h.kT,fun d h1 h2=>h.ww d h2 h1,h.Ws,h.Wr,h.ny,h.fc⟩
theorem zm.alike {x y:bW} {fc ny:List Nat} (h:zm x y fc ny) {cv:Option (Nat×cr)} {v:ai} (aj:∀i b,cv=some (i,b)→i∈x.writes):Alike y ny σ (app cv x.dst v σ)where
 ops:=fun t ah=>qQ _ _ _ _ _ fun e=>h.kT t e (tk ah)
 Wq:=fun t w ah=>qQ _ _ _ _ _ fun e=>h.kT t e (r3 ah)
 az:=fun j aH=>aju fun i b e fy=>by
  subst fy
  have hi:=aj _ _ e
  rcases aH with aH|aH
  ·exact aH (h.ny _ hi)
  ·exact h.ww _ hi aH
theorem Alike.symm {o:bW} {ck:List Nat} (h:Alike o ck σ σ'):Alike o ck σ' σ:=⟨fun t ah=>(h.ops t ah).symm,fun t w ah=>(h.Wq t w ah).symm,fun j aH=>(h.az j aH).symm⟩
theorem akc {x y:bW} {fc ny:List Nat} (h:zm x y fc ny) {cv ry:Option (Nat×cr)} {v fb:ai} (aj:∀i b,cv=some (i,b)→i∈x.writes) (hy:∀i b,ry=some (i,b)→i∈y.writes):
 app ry y.dst fb (app cv x.dst v σ)=app cv x.dst v (app ry y.dst fb σ):=by
 have aL:∀d,x.dst=some d→y.dst≠some d:=fun d e e'=>h.kT d e (Ax e')
 have a4:(app ry y.dst fb (app cv x.dst v σ)).ag=(app cv x.dst v (app ry y.dst fb σ)).ag:=by
  funext t
  by_cases h1:x.dst=some t
  ·rw[qQ _ _ _ _ _ (aL t h1)]
   unfold app
   rw[fO,fO,if_pos h1,if_pos h1]
  ·rw[qQ _ _ _ _ _ h1]
   unfold app
   rw[fO,fO]
   by_cases h2:y.dst=some t
   ·rw[if_pos h2,if_pos h2]
   ·rw[if_neg h2,if_neg h2]
    have:∀(o:Option (Nat×cr)) (σ:St),(match o with|some (i,b)=>σ.eF i b|none=>σ).ag t=σ.ag t:=by intro o σ;cases o<;>rfl
    rw[this,this,fO,if_neg h1,this]
 have bc:(app ry y.dst fb (app cv x.dst v σ)).az=(app cv x.dst v (app ry y.dst fb σ)).az:=by
  funext j
  rw[u2,u2,u2,u2]
  cases cv with
  |none=>rfl
  |some Cu=>
   cases ry with
   |none=>rfl
   |some MN=>
    have h1:=aj Cu.1 Cu.2 rfl
    have h2:=hy MN.1 MN.2 rfl
    have eZ:Cu.1≠MN.1:=fun e=>h.ww _ h1 (e▸h2)
    simp only
    by_cases Cv:j=Cu.1
    ·have c8:¬j=MN.1:=by omega
     simp only[Cv,if_true]
     rw[if_neg (by omega)]
    ·rw[if_neg Cv];split<;>simp_all
 cases aq:app ry y.dst fb (app cv x.dst v σ)with|mk t1 cy=>
 cases aE:app cv x.dst v (app ry y.dst fb σ)with|mk t2 aR=>
 rw[aq,aE]at a4 bc
 simp only at a4 bc
 rw[a4,bc]
theorem ajv {x y:bW} {fc ny:List Nat} (h:zm x y fc ny) {r:List (bW×List Nat)} (af:c2 Γ K ((x,fc)::(y,ny)::r) σ):c2 Γ K ((y,ny)::(x,fc)::r) σ:=by
 have F0:=YN (Γ:=Γ) h.Wr
 have uC:=YN (Γ:=Γ) h.Ws
 rw[tl _ _ _ F0]at af
 rw[tl _ _ _ uC]
 obtain⟨cv,v,h1,h2⟩:=af
 rw[tl _ _ _ uC]at h2
 obtain⟨ry,fb,aq,aE⟩:=h2
 have aj:=Xh h.Wr h1
 have hy:=Xh h.Ws aq
 have Iq:=h.alike (σ:=σ) (v:=v) aj
 refine⟨ry,fb,Kf Iq.symm aq,?_⟩
 rw[tl _ _ _ F0]
 refine⟨cv,v,Kf (h.symm.alike (σ:=σ) (v:=fb) hy) h1,?_⟩
 rw[←akc h aj hy]
 exact aE
structure Lz (x y:bW):Prop where
 kT:∀d,x.dst=some d→d∉y.qR
 kU:∀d,y.dst=some d→d∉x.qR
theorem A0 {o:bW} {ck:List Nat} (hm:o.jU=true) (h1:∀t,bB.t t∈o.op.ops→σ'.ag t=σ.ag t) (h2:∀t w,o.guard=some (t,w)→σ'.ag t=σ.ag t) {cv:Option (Nat×cr)} {v:ai} (aG:sk Γ o ck σ cv v):sk Γ o ck σ' cv v:=by
 unfold sk at*
 have bh:qZ σ' o.guard=qZ σ o.guard:=by
  cases Ip:o.guard with
  |none=>rfl
  |some xo=>simp only[qZ,h2 xo.1 xo.2 Ip]
 rw[bh]
 cases o with|mk dst op g=>
 cases op with
 |bj x=>
  have aj:σ'.a3 x=σ.a3 x:=by
   cases x with
   |t t=>exact h1 t (by simp[bJ.ops])
   |c d=>rfl
  have aJ:cG σ' (bJ.ops (.bj x))=cG σ (bJ.ops (.bj x)):=by simp only[bJ.ops,cG,List.map_cons,List.map_nil,aj]
  split at aG
  ·refine⟨by rw[aJ];exact aG.1,?_⟩
   have h2:=aG.2
   simp only[zU,wR,bJ.makes,Bool.false_eq_true,if_false,bz]at h2⊢
   rw[aj];exact h2
  ·exact aG
  ·exact aG.elim
 |_=>cases hm
theorem QD {o:bW} {ck:List Nat} (hm:o.jU=true) {cv:Option (Nat×cr)} {v:ai} (aG:sk Γ o ck σ cv v):cv=none:=by
 unfold sk at aG
 cases o with|mk dst op g=>
 cases op with
 |bj x=>
  split at aG
  ·have h2:=aG.2
   simp only[zU,wR,bJ.makes,Bool.false_eq_true,if_false]at h2
   exact h2.1
  ·exact aG.1
  ·exact aG.elim
 |_=>cases hm
theorem Yd {d rY:Option Nat} {cv:Option (Nat×cr)} {v fb:ai} (aL:∀t,d=some t→rY≠some t):app cv rY fb (app none d v σ)=app none d v (app cv rY fb σ):=by
 have a4:(app cv rY fb (app none d v σ)).ag=(app none d v (app cv rY fb σ)).ag:=by
  funext t
  by_cases h1:d=some t
  ·rw[qQ _ _ _ _ _ (aL t h1)]
   unfold app
   rw[fO,fO,if_pos h1,if_pos h1]
  ·rw[qQ _ _ _ _ _ h1]
   unfold app
   rw[fO,fO]
   by_cases h2:rY=some t
   ·rw[if_pos h2,if_pos h2]
   ·rw[if_neg h2,if_neg h2]
    have:∀(o:Option (Nat×cr)) (σ:St),(match o with|some (i,b)=>σ.eF i b|none=>σ).ag t=σ.ag t:=by intro o σ;cases o<;>rfl
    rw[this,this,fO,if_neg h1]
 have bc:(app cv rY fb (app none d v σ)).az=(app none d v (app cv rY fb σ)).az:=by
  funext j
  rw[u2,u2,u2,u2]
 cases aq:app cv rY fb (app none d v σ)with|mk t1 cy=>
 cases aE:app none d v (app cv rY fb σ)with|mk t2 aR=>
 rw[aq,aE]at a4 bc
 simp only at a4 bc
 rw[a4,bc]
theorem O9:∀(is:List Nat) (cs:List BC) (σ:St),(hQ σ is cs).ag=σ.ag
 |[],_,_=>by simp only[hQ]
 |i::r,[],_=>by simp only[hQ]
 |i::r,c::cs,σ=>by
  simp only[hQ]
  split
  ·rw[O9 r cs];rfl
  ·exact O9 r cs σ
theorem OO:∀(is:List Nat) (cs:List BC) (σ:St) (d:Option Nat) (v:ai),hQ (σ.put d v) is cs=(hQ σ is cs).put d v
 |[],_,_,_,_=>by simp only[hQ]
 |i::r,[],_,_,_=>by simp only[hQ]
 |i::r,c::cs,σ,d,v=>by
  simp only[hQ,p5]
  cases aw:σ.az i with
  |none=>exact OO r cs σ d v
  |some b=>
   simp only
   rw[←OO r cs]
   congr 1
   cases d<;>rfl
theorem Xi (σ:St) (p:Nat→Bool) (d:Option Nat) (v:ai):∀is:List Nat,contents (σ.put d v) p is=contents σ p is
 |[]=>rfl
 |i::r=>by simp only[contents,p5,Xi σ p d v r]
theorem PQ (σ:St) {d e:Option Nat} {u v:ai} (h:∀t,d=some t→e≠some t):(σ.put e u).put d v=(σ.put d v).put e u:=by
 have a4:((σ.put e u).put d v).ag=((σ.put d v).put e u).ag:=by
  funext t
  rw[fO,fO,fO,fO]
  by_cases h1:d=some t
  ·rw[if_pos h1,if_neg (h t h1),if_pos h1]
  ·rw[if_neg h1,if_neg h1]
 have bc:((σ.put e u).put d v).az=((σ.put d v).put e u).az:=by rw[p5,p5,p5,p5]
 cases aq:(σ.put e u).put d v with|mk t1 cy=>
 cases aE:(σ.put d v).put e u with|mk t2 aR=>
 rw[aq,aE]at a4 bc
 simp only at a4 bc
 rw[a4,bc]
theorem KN {C:hg} {dst:Option Nat} {vs:List ai} (h:si C dst σ K vs):∃s,(∀t,dst≠some t→s.ag t=σ.ag t)∧K s∧
 ∀(d:Option Nat) (v:ai),(∀t,d=some t→dst≠some t)→∀fa:St→Prop,fa (s.put d v)→si C dst (σ.put d v) fa vs:=by
 have aa9:∀(d:Option Nat) (v:ai) (is:List Nat),reach (σ.put d v) is=reach σ is:=fun d v is=>by simp only[reach,p5]
 unfold si wG at h
 split at h
 ·rename_i My au
  obtain⟨h1,h2,aq,aE⟩:=h
  refine⟨_,fun t ah=> ?_,aE,fun d v aL fa af=> ?_⟩
  ·rw[fO,if_neg ah,O9]
  ·unfold si wG
   rw[aa9,aa9,Xi,au]
   refine⟨h1,h2,aq,?_⟩
   rw[OO,←PQ _ aL]
   exact af
 ·exact h.elim
theorem Az {x:bW} {fc:List Nat} (hm:x.jU=true) {r:List (bW×List Nat)} :c2 Γ K ((x,fc)::r) σ↔∃v,sk Γ x fc σ none v∧c2 Γ K r (σ.put x.dst v):=by
 rw[tl _ _ _ (akb hm)]
 constructor
 ·rintro⟨cv,v,h1,h2⟩
  have:=QD hm h1
  subst this
  exact⟨v,h1,h2⟩
 ·rintro⟨v,h1,h2⟩
  exact⟨none,v,h1,h2⟩
theorem YO (σ:St) (d:Option Nat) {v:ai} (h:∀t,d=some t→σ.ag t=v):σ.put d v=σ:=by
 have a4:(σ.put d v).ag=σ.ag:=by
  funext t
  rw[fO]
  by_cases aL:d=some t
  ·rw[if_pos aL,h t aL]
  ·rw[if_neg aL]
 have bc:(σ.put d v).az=σ.az:=p5 ..
 cases aq:σ.put d v with|mk t1 cy=>
 rw[aq]at a4 bc
 simp only at a4 bc
 rw[a4,bc]
theorem YP (σ:St) (d:Option Nat) (u v:ai):(σ.put d u).put d v=σ.put d v:=by
 have a4:((σ.put d u).put d v).ag=(σ.put d v).ag:=by
  funext t
  rw[fO,fO,fO]
  by_cases aL:d=some t
  ·rw[if_pos aL,if_pos aL]
  ·rw[if_neg aL,if_neg aL,if_neg aL]
 have bc:((σ.put d u).put d v).az=(σ.put d v).az:=by rw[p5,p5,p5]
 cases aq:(σ.put d u).put d v with|mk t1 cy=>
 cases aE:σ.put d v with|mk t2 aR=>
 rw[aq,aE]at a4 bc
 simp only at a4 bc
 rw[a4,bc]
def Rd (Γ:Env) (o:bW) (ck:List Nat):Prop:=∃f as C,o.op= .call f as∧ck=[]∧Γ.mt f=some C
theorem KO (o:bW) (ck:List Nat):C6 Γ o ck∨Rd Γ o ck:=by
 cases o with|mk dst op g=>
 cases op with
 |call f as=>
  cases ck with
  |nil=>
   cases h:Γ.mt f with
   |none=>exact .inl h
   |some C=>exact .inr ⟨f,as,C,rfl,rfl,h⟩
  |cons _ _=>exact .inl trivial
 |_=>exact .inl trivial
theorem GZ {o:bW} {ck:List Nat} {f:Nat} {as:List bB} {C:hg} (h1:o.op= .call f as) (h2:ck=[]) (aq:Γ.mt f=some C):tU Γ o ck σ K↔si C o.dst σ K (cG σ as):=by
 subst h2
 cases o with|mk dst op g=>
 simp only at h1
 subst h1
 unfold tU
 simp only[za,aq]
 exact⟨fun h=>h.2,fun h=>⟨rfl,h⟩⟩
theorem Ye {o:bW} {f:Nat} {as:List bB} (h:o.op= .call f as) (e:∀t,bB.t t∈o.op.ops→σ'.ag t=σ.ag t):cG σ' as=cG σ as:=by
 rw[h]at e
 simp only[bJ.ops]at e
 unfold cG
 refine List.map_congr_left fun x aj=> ?_
 cases x with
 |t t=>exact e t aj
 |c d=>rfl
theorem OP {o:bW} (e:∀t w,o.guard=some (t,w)→σ'.ag t=σ.ag t):qZ σ' o.guard=qZ σ o.guard:=by
 cases Ip:o.guard with
 |none=>rfl
 |some xo=>simp only[qZ,e xo.1 xo.2 Ip]
theorem aiQ {x y:bW} {fc ny:List Nat} (h:Lz x y) (hm:x.jU=true) (bh:Rd Γ y ny) {r:List (bW×List Nat)} (af:c2 Γ K ((x,fc)::(y,ny)::r) σ):c2 Γ K ((y,ny)::(x,fc)::r) σ:=by
 obtain⟨f,as,C,cC,c9,fM⟩:=bh
 rw[Az hm]at af
 obtain⟨v,aG,af⟩:=af
 have Ir:∀t,x.dst=some t→y.dst≠some t:=fun t e e'=>h.kT t e (Ax e')
 have afx:∀t,y.dst=some t→x.dst≠some t:=fun t e e'=>h.kU t e (Ax e')
 simp only[c2]at af
 show guarded σ y.guard (tU Γ y ny σ (c2 Γ K ((x,fc)::r))) (c2 Γ K ((x,fc)::r) (σ.put y.dst .dt))
 rw[yM]at af⊢
 rw[OP (σ':=σ.put x.dst v) (σ:=σ) (fun t w e=>by rw[fO,if_neg (fun e'=>h.kT t e' (r3 e))])]at af
 rcases af with ⟨bE,bM⟩|⟨bE,bM⟩
 ·refine .inl ⟨bE,?_⟩
  rw[GZ cC c9 fM]at bM⊢
  rw[Ye (σ':=σ.put x.dst v) (σ:=σ) cC (fun t ah=>by rw[fO,if_neg (fun e'=>h.kT t e' (tk ah))])]at bM
  obtain⟨s,s1,s2,qF⟩:=KN bM
  cases aL:x.dst with
  |none=>
   have:=qF none .dt (fun t e=>by cases e) (c2 Γ K ((x,fc)::r)) ((Az hm).2 ⟨v,A0 hm (fun t ah=> ?_) (fun t w e=> ?_) aG,?_⟩)
   ·rw[aL]at this;exact this
   ·rw[show s.put none .dt=s from rfl,s1 t (fun e'=>h.kU t e' (tk ah)),aL];rfl
   ·rw[show s.put none .dt=s from rfl,s1 t (fun e'=>h.kU t e' (r3 e)),aL];rfl
   ·rw[aL];exact s2
  |some d=>
   have:=qF (some d) (σ.ag d) (fun t e=>Ir t (aL.trans e)) (c2 Γ K ((x,fc)::r)) ((Az hm).2 ⟨v,A0 hm (fun t ah=> ?_) (fun t w e=> ?_) aG,?_⟩)
   ·rw[aL,YP,YO _ _ (fun t e=>by cases e;rfl)]at this
    exact this
   ·rw[fO]
    split
    ·rename_i e;cases e;rfl
    ·rename_i eZ
     rw[s1 t (fun e'=>h.kU t e' (tk ah)),aL,fO,if_neg eZ]
   ·rw[fO]
    split
    ·rename_i e';cases e';rfl
    ·rename_i eZ
     rw[s1 t (fun e'=>h.kU t e' (r3 e)),aL,fO,if_neg eZ]
   ·rw[aL,YP,YO]
    ·exact s2
    ·intro t e
     rw[s1 t (Ir t (aL.trans e)),aL,fO,if_pos e]
 ·refine .inr ⟨bE,?_⟩
  refine(Az hm).2 ⟨v,A0 hm (fun t ah=> ?_) (fun t w e=> ?_) aG,?_⟩
  ·rw[fO,if_neg (fun e'=>h.kU t e' (tk ah))]
  ·rw[fO,if_neg (fun e'=>h.kU t e' (r3 e))]
  ·rw[PQ _ Ir];exact bM
theorem aip {x y:bW} {fc ny:List Nat} (h:Lz x y) (hm:y.jU=true) (bh:Rd Γ x fc) {r:List (bW×List Nat)} (af:c2 Γ K ((x,fc)::(y,ny)::r) σ):c2 Γ K ((y,ny)::(x,fc)::r) σ:=by
 obtain⟨f,as,C,cC,c9,fM⟩:=bh
 have Ir:∀t,x.dst=some t→y.dst≠some t:=fun t e e'=>h.kT t e (Ax e')
 have afx:∀t,y.dst=some t→x.dst≠some t:=fun t e e'=>h.kU t e (Ax e')
 rw[Az hm]
 simp only[c2]at af
 rw[yM]at af
 rcases af with ⟨bE,bM⟩|⟨bE,bM⟩
 ·rw[GZ cC c9 fM]at bM
  obtain⟨s,s1,s2,qF⟩:=KN bM
  have MO:c2 Γ K ((y,ny)::r) s:=s2
  rw[Az hm]at MO
  obtain⟨v,aG,ar⟩:=MO
  refine⟨v,A0 hm (fun t ah=> ?_) (fun t w e=> ?_) aG,?_⟩
  ·rw[s1 t (fun e'=>h.kT t e' (tk ah))]
  ·rw[s1 t (fun e'=>h.kT t e' (r3 e))]
  ·simp only[c2]
   rw[yM,OP (σ':=σ.put y.dst v) (σ:=σ) (fun t w e=>by rw[fO,if_neg (fun e'=>h.kU t e' (r3 e))])]
   refine .inl ⟨bE,?_⟩
   rw[GZ cC c9 fM,Ye (σ':=σ.put y.dst v) (σ:=σ) cC (fun t ah=>by rw[fO,if_neg (fun e'=>h.kU t e' (tk ah))])]
   exact qF y.dst v afx _ ar
 ·have afy:c2 Γ K ((y,ny)::r) (σ.put x.dst .dt):=bM
  rw[Az hm]at afy
  obtain⟨v,aG,ar⟩:=afy
  refine⟨v,A0 hm (fun t ah=> ?_) (fun t w e=> ?_) aG,?_⟩
  ·rw[fO,if_neg (fun e'=>h.kT t e' (tk ah))]
  ·rw[fO,if_neg (fun e'=>h.kT t e' (r3 e))]
  ·simp only[c2]
   rw[yM,OP (σ':=σ.put y.dst v) (σ:=σ) (fun t w e=>by rw[fO,if_neg (fun e'=>h.kU t e' (r3 e))])]
   refine .inr ⟨bE,?_⟩
   rw[PQ _ Ir];exact ar
theorem aiR {x y:bW} {fc ny:List Nat} (h:Lz x y) (hm:x.jU=true∨y.jU=true) {r:List (bW×List Nat)} (af:c2 Γ K ((x,fc)::(y,ny)::r) σ):c2 Γ K ((y,ny)::(x,fc)::r) σ:=by
 rcases KO (Γ:=Γ) x fc with F0|ahp
 case inr=>
  rcases hm with hm|hm
  ·obtain⟨f,as,C,cC,_⟩:=ahp
   cases x with|mk dst op g=>simp only at cC;subst cC;cases hm
  ·exact aip h hm ahp af
 rcases KO (Γ:=Γ) y ny with uC|ahq
 case inr=>
  rcases hm with hm|hm
  ·exact aiQ h hm ahq af
  ·obtain⟨f,as,C,cC,_⟩:=ahq
   cases y with|mk dst op g=>simp only at cC;subst cC;cases hm
 rw[tl _ _ _ F0]at af
 rw[tl _ _ _ uC]
 obtain⟨cv,v,h1,h2⟩:=af
 rw[tl _ _ _ uC]at h2
 obtain⟨ry,fb,aq,aE⟩:=h2
 rcases hm with hm|hm
 ·have:=QD hm h1
  subst this
  have Iq:Alike y ny (app none x.dst v σ) σ:=⟨fun t ah=>(qQ _ _ _ _ _ fun e=>h.kT t e (tk ah)).symm,fun t w ah=>(qQ _ _ _ _ _ fun e=>h.kT t e (r3 ah)).symm,fun j _=>by rw[u2]⟩
  refine⟨ry,fb,Kf Iq aq,?_⟩
  rw[tl _ _ _ F0]
  refine⟨none,v,A0 hm (fun t ah=>qQ _ _ _ _ _ fun e=>h.kU t e (tk ah)) (fun t w ah=>qQ _ _ _ _ _ fun e=>h.kU t e (r3 ah)) h1,?_⟩
  rw[←Yd (fun t e e'=>h.kT t e (Ax e'))]
  exact aE
 ·have:=QD hm aq
  subst this
  refine⟨none,fb,A0 hm (fun t ah=>(qQ _ _ _ _ _ fun e=>h.kT t e (tk ah)).symm) (fun t w ah=>(qQ _ _ _ _ _ fun e=>h.kT t e (r3 ah)).symm) aq,?_⟩
  rw[tl _ _ _ F0]
  have Iq:Alike x fc σ (app none y.dst fb σ):=⟨fun t ah=>qQ _ _ _ _ _ fun e=>h.kU t e (tk ah),fun t w ah=>qQ _ _ _ _ _ fun e=>h.kU t e (r3 ah),fun j _=>by rw[u2]⟩
  refine⟨cv,v,Kf Iq h1,?_⟩
  rw[Yd (fun t e e'=>h.kU t e (Ax e'))]
  exact aE
def QE (x y:bW) (fc ny:List Nat):Prop:=zm x y fc ny∨(Lz x y∧(x.jU=true∨y.jU=true))
theorem aiS {x y:bW} {fc ny:List Nat} (h:QE x y fc ny) {r:List (bW×List Nat)} (af:c2 Γ K ((x,fc)::(y,ny)::r) σ):c2 Γ K ((y,ny)::(x,fc)::r) σ:=by
 rcases h with h|⟨h,hm⟩
 ·exact ajv h af
 ·exact aiR h hm af
theorem ajw {o:bW} {ck:List Nat} {A B:List (bW×List Nat)} (S9:∀s,c2 Γ K A s→c2 Γ K B s) (h:c2 Γ K ((o,ck)::A) σ):c2 Γ K ((o,ck)::B) σ:=by
 rcases KO (Γ:=Γ) o ck with p|⟨f,as,C,cC,c9,fM⟩
 ·rw[tl _ _ _ p]at*
  obtain⟨cv,v,h1,h2⟩:=h
  exact⟨cv,v,h1,S9 _ h2⟩
 ·simp only[c2]at h⊢
  rw[yM]at h⊢
  rcases h with ⟨bE,bM⟩|⟨bE,bM⟩
  ·refine .inl ⟨bE,?_⟩
   rw[GZ cC c9 fM]at bM⊢
   obtain⟨s,_,s2,qF⟩:=KN bM
   exact qF none .dt (fun t e=>by cases e) _ (S9 _ s2)
  ·exact .inr ⟨bE,S9 _ bM⟩
theorem XR {y:bW} {ny:List Nat} :∀{xs:List (bW×List Nat)} {r:List (bW×List Nat)},(∀x∈xs,QE x.1 y x.2 ny)→∀{σ:St},c2 Γ K (xs++(y,ny)::r) σ→c2 Γ K ((y,ny)::(xs++r)) σ
 |[],r,_,σ,af=>af
 |x::xs,r,h,σ,af=>by
  refine aiS (h x (by simp)) ?_
  rw[List.cons_append]at af
  exact ajw (fun s aG=>XR (fun z br=>h z (by simp[br])) aG) af
end
end RV
namespace RV
open Go Go.RowKit
section
variable {ops:Array Oper}
theorem ah2 {after:Array Edge} {acc:Array Nat} {k:Nat} (af:acc.size=k):∀i,(after.foldl (fun s e=>if Region.binds .any e then s|||2^e.on|||acc.getD e.on 0 else s) 0).testBit i=true→
 ∃e∈after,Region.binds .any e=true∧(e.on=i∨(e.on<k∧(acc.getD e.on 0).testBit i=true)):=by
 refine Array.foldl_induction (motive:=fun _ (s:Nat)=>∀i,s.testBit i=true→∃e∈after,Region.binds .any e=true∧(e.on=i∨(e.on<k∧(acc.getD e.on 0).testBit i=true))) (fun i h=>by simp at h) ?_
 intro j s cM i h
 have hm:after[j]∈after:=Array.getElem_mem j.2
 generalize after[j]=cm at h hm
 split at h
 ·rename_i aw
  rw[Nat.testBit_or,Nat.testBit_or,Bool.or_eq_true,Bool.or_eq_true]at h
  rcases h with (h|h)|h
  ·exact cM i h
  ·rw[Nat.testBit_two_pow]at h
   exact⟨_,hm,aw,.inl (by simpa using h)⟩
  ·refine⟨_,hm,aw,.inr ⟨?_,h⟩⟩
   rcases Nat.lt_or_ge cm.on acc.size with eU|eU
   ·omega
   ·simp[Array.getD_eq_getD_getElem?,Array.getElem?_eq_none eU]at h
 ·exact cM i h
theorem Xu {j:Nat} {o:Oper} (bu:ops[j]? =some o):∀i,((Region.before ops).getD j 0).testBit i=true→
 ∃e∈o.after,Region.binds .any e=true∧(e.on=i∨(e.on<j∧((Region.before ops).getD e.on 0).testBit i=true)):=by
 have main:(Region.before ops).size=ops.size∧∀j,j<ops.size→∀o,ops[j]? =some o→∀i,((Region.before ops).getD j 0).testBit i=true→
  ∃e∈o.after,Region.binds .any e=true∧(e.on=i∨(e.on<j∧((Region.before ops).getD e.on 0).testBit i=true)):=by
  refine Array.foldl_induction (motive:=fun k (acc:Array Nat)=>acc.size=k∧∀j,j<k→∀o,ops[j]? =some o→∀i,(acc.getD j 0).testBit i=true→
   ∃e∈o.after,Region.binds .any e=true∧(e.on=i∨(e.on<j∧(acc.getD e.on 0).testBit i=true))) ⟨rfl,fun j aH=>by omega⟩ ?_
  rintro k acc ⟨aG,cM⟩
  refine⟨by simp[aG],fun j aH o bu i hi=> ?_⟩
  have old:∀m (v:Nat),m<acc.size→(acc.push v).getD m 0=acc.getD m 0:=fun m v hm=>by
   simp[Array.getD_eq_getD_getElem?,Array.getElem?_push,Nat.ne_of_lt hm]
  rcases Nat.lt_or_ge j k.1 with bw|BV
  ·rw[old j _ (by omega)]at hi
   obtain⟨e,he,aw,h⟩:=cM j bw o bu i hi
   refine⟨e,he,aw,h.imp id fun⟨h1,h2⟩=>⟨h1,?_⟩⟩
   rw[old _ _ (by omega)];exact h2
  ·have sM:j=k.1:=by omega
   subst sM
   have ji:o=ops[k]:=by
    rw[Array.getElem?_eq_getElem k.2]at bu
    simpa using bu.symm
   have aC:(acc.push (ops[k].after.foldl (fun s e=>if Region.binds .any e then s|||2^e.on|||acc.getD e.on 0 else s) 0)).getD k.1 0=ops[k].after.foldl (fun s e=>if Region.binds .any e then s|||2^e.on|||acc.getD e.on 0 else s) 0:=by
    rw[Array.getD_eq_getD_getElem?,Array.getElem?_push,if_pos aG.symm];rfl
   rw[show ((acc.push _).getD k.1 0=_)from aC]at hi
   obtain⟨e,he,aw,h⟩:=ah2 aG i hi
   refine⟨e,by rw[ji];exact he,aw,h.imp id fun⟨h1,h2⟩=>⟨h1,?_⟩⟩
   rw[old _ _ (by omega)];exact h2
 exact main.2 j (Array.getElem?_eq_some_iff.1 bu).1 o bu
theorem W5 {b:Array Nat} {j:Nat} (h:CP b j=true) {i:Nat} (hi:i<j):(b.getD j 0).testBit i=true:=by
 simp only[CP,List.all_eq_true,List.mem_range]at h
 exact h i hi
theorem OD {b:Array Nat} :∀{n j:Nat},n - jC b n≤j→j<n→CP b j=true
 |0,j,_,h=>by omega
 |n+1,j,h1,h2=>by
  unfold jC at h1
  split at h1
  ·rename_i hw
   rcases Nat.lt_or_ge j n with h|h
   ·exact OD (n:=n) (by omega) h
   ·have:j=n:=by omega
    subst this;exact hw
  ·omega
def C7 (ops:Array Oper) (L:Array Bool):Prop:=∀k o,ops[k]? =some o→L.getD k false=true→∀e∈o.after,Region.binds .any e=true→L.getD e.on false=true
theorem W6 {L:Array Bool} (au:C7 ops L):∀(n j:Nat),j<n→j<ops.size→L.getD j false=true→∀i,((Region.before ops).getD j 0).testBit i=true→L.getD i false=true
 |0,j,h,_,_=>by omega
 |n+1,j,h,aH,aJ=>by
  intro i hi
  obtain⟨e,he,aw,eU⟩:=Xu (Array.getElem?_eq_getElem aH) i hi
  have hle:=au j _ (Array.getElem?_eq_getElem aH) aJ e he aw
  rcases eU with rfl|⟨h1,h2⟩
  ·exact hle
  ·exact W6 au n e.on (by omega) (by omega) hle i h2
theorem Oq {L:Array Bool} (au:C7 ops L) {j:Nat} (ar:j∈Region.ready .any ops L):∀i,((Region.before ops).getD j 0).testBit i=true→L.getD i false=true:=by
 obtain⟨_,o,bu,gY⟩:=mem_ready.1 ar
 intro i hi
 obtain⟨e,he,aw,eU⟩:=Xu bu i hi
 have hle:=gY e he aw
 rcases eU with rfl|⟨h1,h2⟩
 ·exact hle
 ·exact W6 au _ e.on (Nat.lt_succ_self _) (by have:=(Array.getElem?_eq_some_iff.1 bu).1;omega) hle i h2
theorem aiT {L:Array Bool} (au:C7 ops L) {j:Nat} (ar:j∈Region.ready .any ops L):C7 ops (L.setIfInBounds j true):=by
 obtain⟨_,o,bu,gY⟩:=mem_ready.1 ar
 intro k o' ji af e he aw
 refine getD_set_true ?_
 by_cases afz:j=k
 ·subst afz
  rw[bu]at ji
  simp only[Option.some.injEq]at ji
  subst ji
  exact gY e he aw
 ·rw[getD_set_ne false afz]at af
  exact au k o' ji af e he aw
end
section
variable {N:Nat} {aU:eW} {aP:Mem} {R:bU} {σ σ':St} {a:Act} {w w':World} {rd rd':Mem} {β β':bU} {P:Program} {Γ:Env} {ops:Array Oper}
theorem fD.wpOp {i:Nat} {o:Oper} (bu:ops[i]? =some o) {K:St→Prop} {next:Act→World→Prop} {Q:Exit→Act→World→Prop} (hw:Region.wanted o (yielded ops a.tmps)=true) (h:fD P N aU aP R o a w K)
 (aQ:∀σ' ct w' rd' β',K σ'→bl N aU aP R σ' ct w' rd' β'→next ct w'):wpOp P ops Q i next a w:=by
 unfold Go.wpOp
 simp only[bu,hw,if_true]
 exact .inl (h next Q aQ)
theorem akd (c0:ae P aP Γ) (h:bl N aU aP R σ a w rd β) {o:Oper} {l:bJ} (ah:dV P o.type o.op=some l) (aL:h8 N o.dst=true) {g:Option (Nat×Bool)} {ck:List Nat} {K:St→Prop}
 (af:tU Γ ⟨o.dst,l,g⟩ ck σ K):fD P N aU aP R o a w K:=by
 unfold tU at af
 obtain⟨_,af⟩:=af
 have makes:l.makes=true→su Γ o.dst l σ K→fD P N aU aP R o a w K:=by
  intro hm af
  unfold su at af
  rw[if_pos hm]at af
  cases qf:o.dst with
  |none=>rw[qf]at af;exact af.elim
  |some i=>
   rw[qf]at af
   obtain⟨hi,af⟩:=af
   have g9:β i=none:=by
    cases e:β i with
    |none=>rfl
    |some r=>obtain⟨b,aw,_⟩:=h.box i r e;rw[hi]at aw;cases aw
   refine GC h ah hm aL (i:=i) (g:=fun b=>σ.eF i b) (by rw[qf];exact af) (fun b=>aif h hi b) (fun x _ r vs ar=> ?_)
   refine b6.ext (fun j r' aH=> ?_) _ _ ar
   by_cases e:j=i
   ·subst e;rw[g9]at aH;cases aH
   ·simpa [fC,e]using aH
 have value:l.makes=false→su Γ o.dst l σ K→fD P N aU aP R o a w K:=by
  intro hm af
  unfold su at af
  rw[if_neg (by rw[hm];simp)]at af
  exact Yb c0 h ah aL af
 cases l with
 |store n x y=>
  simp only at af
  obtain⟨qf,af⟩:=af
  rw[Gt]at af
  obtain⟨i,b,h1,h2⟩:=af
  cases ck with
  |nil=>
   simp only[uO,wB]at h1
   split at h1
   ·rename_i pU off a1
    split at h1
    ·rename_i e c aw
     obtain⟨aq,aE,h1⟩:=h1
     split at h1
     ·rename_i c' au
      obtain⟨rfl,rfl⟩:=h1
      exact Gx h ah aL aw aq aE (.inl ⟨off,a1,au⟩) (by rw[qf];exact h2)
     ·exact h1.elim
    ·exact h1.elim
   ·rename_i pU j off a1
    split at h1
    ·rename_i e c aw
     obtain⟨aq,aE,h1⟩:=h1
     split at h1
     ·rename_i c' au
      obtain⟨rfl,rfl⟩:=h1
      exact Gx h ah aL aw aq aE (.inr ⟨j,off,a1,au⟩) (by rw[qf];exact h2)
     ·exact h1.elim
    ·exact h1.elim
   ·exact h1.elim
  |cons _ _=>
  simp only[uO]at h1
  obtain⟨p,off,rfl,a1⟩:=Xt h1
  simp only[stored,a1]at h1
  obtain⟨_,h1⟩:=h1
  split at h1
  ·rename_i e c aw
   obtain⟨aq,aE,h1⟩:=h1
   split at h1
   ·rename_i c' au
    obtain⟨rfl,rfl⟩:=h1
    exact Gx h ah aL aw aq aE (.inl ⟨off,a1,au⟩) (by rw[qf];exact h2)
   ·exact h1.elim
  ·exact h1.elim
 |call f as=>
  simp only[za]at af
  split at af
  ·rename_i as3 g4
   obtain⟨p,dv,bQ,has⟩:=XP ah
   have cA:=c0.2 f _ (by assumption)
   exact OM cA h aL (us:=p.map a.eval) (by simpa using uJ h has) (O6 bQ cA.1) (CK σ _).1 (fun i hi=>(CK σ _).2 i ((CK σ _).2 i (Gp (AP _ i hi)))) af
  ·exact value rfl af
 |alloc z=>exact makes rfl af
 |box z=>exact makes rfl af
 |rq _ _ z=>exact makes rfl af
 |nil z=>exact makes rfl af
 |_=>exact value rfl af
theorem aiU (c0:ae P aP Γ) (h:bl N aU aP R σ a w rd β) {M:Nat} (cb:M≤N) {i:Nat} {o:Oper} (bu:ops[i]? =some o) {lo:bW} (ah:sf P M ops o=some lo) {ck:List Nat} {r:List (bW×List Nat)} {K:St→Prop}
 (af:c2 Γ K ((lo,ck)::r) σ) {next:Act→World→Prop} {Q:Exit→Act→World→Prop} (aQ:∀σ' ct w' rd' β',c2 Γ K r σ'→bl N aU aP R σ' ct w' rd' β'→next ct w'):wpOp P ops Q i next a w:=by
 obtain⟨l,g,h1,h2,aq,rfl⟩:=Gs ah
 have aL:=Km cb aq
 simp only[c2]at af
 rcases Ke h h2 af with ⟨hw,af⟩|⟨hw,af⟩
 ·exact fD.wpOp bu hw (akd c0 h h1 aL af) aQ
 ·unfold Go.wpOp
  simp only[bu,hw,Bool.false_eq_true,if_false]
  exact aQ _ _ _ _ _ af (h.put aL (by simp only[aX]))
theorem aiV (c0:ae P aP Γ) (h:bl N aU aP R σ a w rd β) {M:Nat} (cb:M≤N) {i:Nat} {o:Oper} (bu:ops[i]? =some o) {lo:bW} (ah:sf P M ops o=some lo) {r:List bW} {K:St→Prop}
 (af:eQ Γ K (lo::r) σ) {next:Act→World→Prop} {Q:Exit→Act→World→Prop} (aQ:∀σ' ct w' rd' β',eQ Γ K r σ'→bl N aU aP R σ' ct w' rd' β'→next ct w'):wpOp P ops Q i next a w:=by
 obtain⟨l,g,h1,h2,aq,rfl⟩:=Gs ah
 have aL:=Km cb aq
 simp only[eQ]at af
 rcases Ke h h2 af with ⟨hw,af⟩|⟨hw,af⟩
 ·exact fD.wpOp bu hw (O8 c0 h h1 aL af) aQ
 ·unfold Go.wpOp
  simp only[bu,hw,Bool.false_eq_true,if_false]
  exact aQ _ _ _ _ _ af (h.put aL (by simp only[aX]))
theorem bl.lose (h:bl N aU aP R σ a w rd β) (i:Nat):bl N aU aP R ⟨fun t=>(σ.ag t).kill i,fun j=>if j=i then none else (σ.az j).map (cr.kill i)⟩ a w rd (fC β i none)where
 size:=h.size
 defers:=h.defers
 cV:=h.cV
 dy:=fun k o af=>⟨(h.dy k o af).1.to (fun _ _ e _=> .inl e) (fun j r' aH e=>by
  by_cases q:j=i
  ·subst q;rw[uK]at aH;cases aH
  ·exact⟨j,r',by simpa [fC,q]using aH,e⟩),(h.dy k o af).2⟩
 c3:=h.c3
 dK:=h.dK
 aP:=h.aP
 eX:=fun j r b aH aj br aV a9=>by
  by_cases e:j=i
  ·subst e;rw[uK]at aH;cases aH
  ·simp only[fC,e,if_false]at aH aj
   obtain⟨dc,h0,_⟩:=h.box j r aH
   rw[h0]at aj
   simp only[Option.map_some,Option.some.injEq]at aj
   subst aj
   exact h.eX j r dc aH h0 br aV a9
 eY:=fun t=>aX.kill (fun j aH=>by simp[fC,aH]) (h.eY t)
 box:=fun j r aH=>by
  by_cases e:j=i
  ·subst e;rw[uK]at aH;cases aH
  ·simp only[fC,e,if_false]at aH
   obtain⟨dc,h0,dL,fF,h1,h2⟩:=h.box j r aH
   refine⟨dc.kill i,by simp[e,h0],?_,fF,h1,h2⟩
   have:=dL.gJ (β':=fC β i none) (f:=ai.kill i) (fun x v aj=>aX.kill (fun j aH=>by simp[fC,aH]) aj) (w':=w) (fun _ _ _=>rfl)
   rw[cr.GX]
   exact this
 eL:=fun j b aj aH=>by
  by_cases e:j=i
  ·subst e;simp at aj
  ·simp only[fC,e,if_false]at aH aj
   cases h0:σ.az j with
   |none=>rw[h0]at aj;cases aj
   |some dc=>
    rw[h0]at aj
    simp only[Option.map_some,Option.some.injEq]at aj
    subst aj
    obtain⟨bE,bM⟩:=h.eL j dc h0 aH
    exact⟨bE,by rw[←bM,cr.GX];exact CJ _ dc.c⟩
 eR:=fun j k iQ qE sM aH af=>by
  by_cases e:j=i
  ·subst e;rw[uK]at aH;cases aH
  ·by_cases e':k=i
   ·subst e';rw[uK]at af;cases af
   ·simp only[fC,e,e',if_false]at aH af
    exact h.eR j k iQ qE sM aH af
theorem bl.k8:∀(pre:List (bW×List Nat)) {σ:St} {β:bU},bl N aU aP R σ a w rd β→∃β',bl N aU aP R (RV.k8 σ pre) a w rd β'
 |[],σ,β,h=>⟨β,h⟩
 |o::r,σ,β,h=>by
  unfold RV.k8
  split
  ·exact bl.k8 r (h.lose _)
  ·exact bl.k8 r h
end
end RV
namespace RV
open Go Go.RowKit
theorem kC.length {α iF:Type} {r:α→iF→Prop} :∀{xs:List α} {aB:List iF},kC r xs aB→xs.length=aB.length
 |_,_,.nil=>rfl
 |_,_,.cons _ t=>by simp[t.length]
theorem kC.get {α iF:Type} {r:α→iF→Prop} :∀{xs:List α} {aB:List iF},kC r xs aB→∀{i:Nat} {y:iF},aB[i]? =some y→∃x,xs[i]? =some x∧r x y
 |_,_,.nil,i,y,h=>by simp at h
 |_,_,.cons h0 t,0,y,h=>by simp only[List.getElem?_cons_zero,Option.some.injEq]at h;subst h;exact⟨_,rfl,h0⟩
 |_,_,.cons _ t,i+1,y,h=>by simpa using t.get (by simpa using h)
theorem XS {α:Type} :∀(l:List α) (k:Nat),(l.zipIdx k).Pairwise fun a b=>a.2<b.2
 |[],_=> .nil
 |x::xs,k=>by
  rw[List.zipIdx_cons]
  refine .cons (fun y hy=> ?_) (XS xs (k+1))
  have:=List.le_snd_of_mem_zipIdx hy
  simp only;omega
theorem GO {L:Array Bool} {i:Nat} (h:i<L.size) (d e:Bool):L.getD i d=L.getD i e:=by
 simp[Array.getD_eq_getD_getElem?,h]
theorem Pt {L:Array Bool} {i j:Nat} (h:i<L.size):(L.setIfInBounds i true).getD j false=if j=i then true else L.getD j false:=by
 by_cases e:j=i
 ·subst e;rw[if_pos rfl];simp[Array.getD_eq_getD_getElem?,h]
 ·rw[if_neg e];exact getD_set_ne false (Ne.symm e)
theorem Ot {ops:Array Oper} (h:CX ops=true) {i:Nat} {o:Oper} (bu:ops[i]? =some o) {e:Edge} (he:e∈o.after) (aw:Region.binds .any e=true):e.on<i:=by
 simp only[CX,List.all_eq_true,Prod.forall]at h
 have:=h o i (by rw[List.mem_zipIdx_iff_getElem?];simpa using bu)
 simp only[Array.all_eq_true_iff_forall_mem,Bool.or_eq_true,Bool.not_eq_true',decide_eq_true_eq]at this
 rcases this e he with h|h
 ·rw[aw]at h;cases h
 ·exact h
section
variable {N:Nat} {aU:eW} {aP:Mem} {R:bU} {P:Program} {Γ:Env} {ops:Array Oper}
theorem YQ (c0:ae P aP Γ) {M:Nat} (cb:M≤N) {l:List bW} (aJ:kC (fun i lo=>∃o,ops[i]? =some o∧sf P M ops o=some lo) (List.range ops.size) l) (cA:CX ops=true)
 {p:Nat} (a1:∀j,p≤j→j<ops.size→CP (Region.before ops) j=true) {K:St→Prop} {Q:Exit→Act→World→Prop} (cK:∀a w,iS N aU aP R K a w→Q .normal a w):
 ∀(fuel q:Nat) {L:Array Bool} {σ:St} {a:Act} {w:World} {rd:Mem} {β:bU},p≤q→fuel+q=ops.size→L.size=ops.size→(∀i,i<ops.size→(L.getD i false=true↔i<q))→
  bl N aU aP R σ a w rd β→eQ Γ K (l.drop q) σ→wpAny P .any ops Q fuel L a w:=by
 intro fuel
 have hlen:l.length=ops.size:=by rw[←aJ.length,List.length_range]
 induction fuel with
 |zero=>
  intro q L σ a w rd β sS a7 aG dO au af
  have QF:Region.ready .any ops L=[]:=by
   cases ar:Region.ready .any ops L with
   |nil=>rfl
   |cons i is=>
    have hi:i∈Region.ready .any ops L:=by rw[ar];simp
    obtain⟨h0,o,bu,_⟩:=mem_ready.1 hi
    have ig:=(Array.getElem?_eq_some_iff.1 bu).1
    rw[GO (by omega) true false,(dO i ig).2 (by omega)]at h0
    cases h0
  refine⟨QF,cK _ _ ⟨σ,rd,β,?_,au⟩⟩
  rw[List.drop_of_length_le (by omega)]at af
  exact af
 |succ fuel cM=>
  intro q L σ a w rd β sS a7 aG dO au af
  have B2:q<ops.size:=by omega
  have akL:C7 ops L:=fun k o bu cn e he aw=>by
   have zV:=(Array.getElem?_eq_some_iff.1 bu).1
   have:=Ot cA bu he aw
   have:=(dO k zV).1 cn
   exact(dO e.on (by omega)).2 (by omega)
  have Hd:q∈Region.ready .any ops L:=mem_ready.2 ⟨by
   rw[GO (by omega) true false]
   cases e:L.getD q false with
   |false=>rfl
   |true=>have:=(dO q B2).1 e;omega,ops[q],Array.getElem?_eq_getElem B2,fun e he aw=>by
    have:=Ot cA (Array.getElem?_eq_getElem B2) he aw
    exact(dO e.on (by omega)).2 this⟩
  refine⟨fun h=>(by rw[h]at Hd;cases Hd),fun i hi=> ?_⟩
  obtain⟨h0,o,bu,_⟩:=mem_ready.1 hi
  have ig:=(Array.getElem?_eq_some_iff.1 bu).1
  rw[GO (by omega) true false]at h0
  have aoe:q≤i:=by
   rcases Nat.lt_or_ge i q with h|h
   ·rw[(dO i ig).2 h]at h0;cases h0
   ·exact h
  have aof:i=q:=by
   rcases Nat.eq_or_lt_of_le aoe with h|h
   ·exact h.symm
   ·have:=Oq akL hi q (W5 (a1 i (by omega) ig) h)
    have:=(dO q B2).1 this
    omega
  subst aof
  have afA:i<l.length:=by omega
  obtain⟨pU,hi',hex⟩:=aJ.get (i:=i) (y:=l[i]) (List.getElem?_eq_getElem afA)
  rw[List.getElem?_range ig]at hi'
  simp only[Option.some.injEq]at hi'
  subst hi'
  obtain⟨o',ji,B1⟩:=hex
  rw[List.drop_eq_getElem_cons afA]at af
  refine aiV c0 au cb ji B1 af fun σ' ct w' rd' β' cn cT=> ?_
  refine cM (i+1) (by omega) (by omega) (by simpa using aG) (fun j aH=> ?_) cT cn
  rw[Pt (by omega)]
  by_cases e:j=i
  ·subst e;simp
  ·rw[if_neg e,dO j aH];omega
theorem YR {b:Array Nat} {l:List bW} {i j:Nat} {y:bW} (aH:l[j]? =some y) (eZ:j≠i) (bu:ordered b i j=false) {d:Nat} (aL:d∈y.writes):d∈zk b l i:=by
 refine List.mem_append_left _ ?_
 simp only[List.mem_flatMap,List.mem_filter]
 refine⟨(y,j),⟨?_,?_⟩,aL⟩
 ·rw[List.mem_zipIdx_iff_getElem?];exact aH
 ·simp[eZ,bu]
theorem aae {b:Array Nat} {l:List bW} {i j:Nat} {x y:bW} (hi:l[i]? =some x) (aH:l[j]? =some y) (eZ:j≠i) (bu:ordered b i j=false) (aG:x.AY=true) (hm:y.jU=false):zk b l i≠[]:=by
 unfold zk
 rw[if_pos]
 ·simp
 ·rw[hi]
  simp only[Option.map_some,Option.getD_some,aG,Bool.true_and,List.any_eq_true,Prod.exists]
  exact⟨y,j,by rw[List.mem_zipIdx_iff_getElem?];exact aH,by simp[eZ,bu,hm]⟩
theorem ah3 (b:Array Nat) (i j:Nat):ordered b i j=ordered b j i:=by
 unfold ordered;rw[Nat.max_comm,Nat.min_comm]
theorem akM {b:Array Nat} {l:List bW} (rv:GJ b l=true) {i j:Nat} {x y:bW} (hi:l[i]? =some x) (aH:l[j]? =some y) (bw:i<j) (bu:ordered b i j=false):QE x y (zk b l i) (zk b l j):=by
 simp only[GJ,List.all_eq_true,Prod.forall]at rv
 have:=rv x i (by rw[List.mem_zipIdx_iff_getElem?];exact hi) y j (by rw[List.mem_zipIdx_iff_getElem?];exact aH)
 simp only[bu,Bool.or_false,Bool.or_eq_true,decide_eq_true_eq]at this
 have h2:Qf x y=true:=by rcases this with h|h; · omega
                         ·exact h
 simp only[Qf,Bool.and_eq_true]at h2
 obtain⟨⟨h1,h2⟩,aq⟩:=h2
 have cC:∀d,x.dst=some d→d∉y.qR:=fun d aL=>by rw[aL]at h1;simpa using h1
 have c9:∀d,y.dst=some d→d∉x.qR:=fun d aL=>by rw[aL]at h2;simpa using h2
 by_cases hm:x.jU=true∨y.jU=true
 ·exact .inr ⟨⟨cC,c9⟩,hm⟩
 ·have aj:x.jU=false:=by cases e:x.jU with|false=>rfl|true=>exact absurd (.inl e) hm
  have hy:y.jU=false:=by cases e:y.jU with|false=>rfl|true=>exact absurd (.inr e) hm
  have ji:ordered b j i=false:=by rw[ah3];exact bu
  refine .inl ⟨cC,c9,fun d aL tX=> ?_,fun aG=>aae hi aH (by omega) bu aG hy,fun aG=>aae aH hi (by omega) ji aG aj,fun d aL=>YR aH (by omega) bu aL,fun d aL=>YR hi (by omega) ji aL⟩
  simp only[aj,hy,Bool.or_eq_true,Bool.false_eq_true,false_or,List.all_eq_true]at aq
  have:=aq d aL
  simp at this
  exact this tX
def tag (b:Array Nat) (l:List bW) (x:bW×Nat):bW×List Nat:=(x.1,zk b l x.2)
theorem YS (c0:ae P aP Γ) {M:Nat} (cb:M≤N) {l:List bW} (aJ:kC (fun i lo=>∃o,ops[i]? =some o∧sf P M ops o=some lo) (List.range ops.size) l) (cA:CX ops=true)
 {p:Nat} (B3:p≤ops.size) (a1:∀j,p≤j→j<ops.size→CP (Region.before ops) j=true) (rv:GJ (Region.before ops) (l.take p)=true) {K:St→Prop} {Q:Exit→Act→World→Prop}
 (cK:∀a w,iS N aU aP R K a w→Q .normal a w):
 ∀(fuel:Nat) {rem:List (bW×Nat)} {L:Array Bool} {σ:St} {a:Act} {w:World} {rd:Mem} {β:bU},rem.Sublist (l.take p).zipIdx→fuel=rem.length+(ops.size - p)→L.size=ops.size→C7 ops L→
  (∀i o,(l.take p)[i]? =some o→((o,i)∈rem↔L.getD i false=false))→(∀i,p≤i→i<ops.size→L.getD i false=false)→
  bl N aU aP R σ a w rd β→c2 Γ (eQ Γ K (l.drop p)) (rem.map (tag (Region.before ops) (l.take p))) σ→wpAny P .any ops Q fuel L a w:=by
 intro fuel
 have hlen:l.length=ops.size:=by rw[←aJ.length,List.length_range]
 have MP:(l.take p).length=p:=by rw[List.length_take];omega
 induction fuel with
 |zero=>
  intro rem L σ a w rd β Dw hf aG kG ig g8 au af
  have HI:rem=[]:=List.eq_nil_of_length_eq_zero (by omega)
  subst HI
  refine YQ c0 cb aJ cA a1 cK 0 p (Nat.le_refl _) (by omega) aG (fun i hi=>⟨fun _=>by omega,fun Ta=> ?_⟩) au af
  have bh:(l.take p)[i]? =some ((l.take p)[i]'(by omega)):=List.getElem?_eq_getElem (by omega)
  cases e:L.getD i false with
  |true=>rfl
  |false=>have:=(ig i _ bh).2 e;cases this
 |succ fuel cM=>
  intro rem L σ a w rd β Dw hf aG kG ig g8 au af
  cases HI:rem with
  |nil=>
   subst HI
   refine YQ c0 cb aJ cA a1 cK (fuel+1) p (Nat.le_refl _) (by simp at hf;omega) aG (fun i hi=>⟨fun he=> ?_,fun Ta=> ?_⟩) au af
   ·rcases Nat.lt_or_ge i p with h|h
    ·exact h
    ·rw[g8 i h hi]at he;cases he
   ·have bh:(l.take p)[i]? =some ((l.take p)[i]'(by omega)):=List.getElem?_eq_getElem (by omega)
    cases e:L.getD i false with
    |true=>rfl
    |false=>have:=(ig i _ bh).2 e;cases this
  |cons uD rest=>
   have G0:rem.Pairwise fun a b=>a.2<b.2:=(XS _ 0).sublist Dw
   have LO:∀{o i},(o,i)∈rem→(l.take p)[i]? =some o:=fun {o i} h=>by
    have:=Dw.subset h
    rwa [List.mem_zipIdx_iff_getElem?]at this
   have afB:uD∈rem:=by rw[HI];simp
   have adF:=LO (o:=uD.1) (i:=uD.2) afB
   have ar8:uD.2<p:=by
    have:=(List.getElem?_eq_some_iff.1 adF).1
    omega
   have afC:L.getD uD.2 false=false:=(ig _ _ adF).1 afB
   have Hd:uD.2∈Region.ready .any ops L:=mem_ready.2 ⟨by rw[GO (by omega) true false];exact afC,ops[uD.2]'(by omega),Array.getElem?_eq_getElem _,fun e he aw=>by
    have bw:=Ot cA (Array.getElem?_eq_getElem (by omega)) he aw
    have bh:(l.take p)[e.on]? =some ((l.take p)[e.on]'(by omega)):=List.getElem?_eq_getElem (by omega)
    cases dW:L.getD e.on false with
    |true=>rfl
    |false=>
     have hm:=(ig _ _ bh).2 dW
     rw[HI]at hm G0
     rcases List.mem_cons.1 hm with h|h
     ·rw[←h]at bw;simp only at bw;omega
     ·have:=(List.pairwise_cons.1 G0).1 _ h
      simp only at this;omega⟩
   refine⟨fun h=>(by rw[h]at Hd;cases Hd),fun i hi=> ?_⟩
   obtain⟨h0,o,bu,_⟩:=mem_ready.1 hi
   have adG:=(Array.getElem?_eq_some_iff.1 bu).1
   rw[GO (by omega) true false]at h0
   have Ta:i<p:=by
    rcases Nat.lt_or_ge i p with h|h
    ·exact h
    ·have:=Oq kG hi uD.2 (W5 (a1 i h adG) (by omega))
     rw[afC]at this;cases this
   have bh:(l.take p)[i]? =some ((l.take p)[i]'(by omega)):=List.getElem?_eq_getElem (by omega)
   generalize (l.take p)[i]'(by omega)=lo at bh
   have hm:(lo,i)∈rem:=(ig _ _ bh).2 h0
   obtain⟨xs,r,y4⟩:=List.append_of_mem hm
   rw[y4]at G0
   have BR:∀x∈xs,x.2<i:=fun x aj=>by
    have:=(List.pairwise_append.1 G0).2.2 x aj (lo,i) (by simp)
    exact this
   have BS:∀x∈r,i<x.2:=fun x aj=>by
    have:=(List.pairwise_cons.1 (List.pairwise_append.1 G0).2.1).1 x aj
    exact this
   have aog:l[i]? =some lo:=by
    have afD:=bh
    rw[List.getElem?_take]at afD
    simpa [Ta]using afD
   obtain⟨pU,hi',hex⟩:=aJ.get aog
   rw[List.getElem?_range adG]at hi'
   simp only[Option.some.injEq]at hi'
   subst hi'
   obtain⟨o',ji,B1⟩:=hex
   rw[y4,List.map_append,List.map_cons]at af
   have alr:=XR (y:=lo) (ny:=zk (Region.before ops) (l.take p) i) (xs:=xs.map (tag (Region.before ops) (l.take p))) (r:=r.map (tag (Region.before ops) (l.take p))) (fun x aj=>by
    obtain⟨z,br,rfl⟩:=List.mem_map.1 aj
    have EN:(z.1,z.2)∈rem:=by rw[y4];simp[br]
    have afE:=LO EN
    have bw:=BR z br
    refine akM rv afE bh bw ?_
    cases aw:ordered (Region.before ops) z.2 i with
    |false=>rfl
    |true=>
     unfold ordered at aw
     rw[Nat.max_eq_right (by omega),Nat.min_eq_left (by omega)]at aw
     have:=Oq kG hi z.2 aw
     rw[(ig _ _ afE).1 EN]at this
     cases this) af
   refine aiU c0 au cb ji B1 alr fun σ' ct w' rd' β' cn cT=> ?_
   rw[←List.map_append]at cn
   refine cM (rem:=xs++r) ?_ ?_ (by simpa using aG) (aiT kG hi) (fun k ok amI=> ?_) (fun k aoh zV=> ?_) cT cn
   ·refine List.Sublist.trans ?_ Dw
    rw[y4]
    exact List.Sublist.append (List.Sublist.refl xs) (List.sublist_cons_self _ _)
   ·rw[y4]at hf
    simp only[List.length_append,List.length_cons]at hf⊢
    omega
   ·rw[Pt (by omega)]
    by_cases e:k=i
    ·subst e
     rw[if_pos rfl]
     constructor
     ·intro h
      rcases List.mem_append.1 h with h|h
      ·have:=BR _ h;simp only at this;omega
      ·have:=BS _ h;simp only at this;omega
     ·intro h;cases h
    ·rw[if_neg e,←ig k ok amI,y4]
     simp only[List.mem_append,List.mem_cons,Prod.mk.injEq,e,and_false,false_or]
   ·rw[Pt (by omega),if_neg (by omega)]
    exact g8 k aoh zV
end
end RV
namespace RV
open Go Go.RowKit
section
variable {N:Nat} {aU:eW} {aP:Mem} {R:bU} {σ σ':St} {a:Act} {w w':World} {rd rd':Mem} {β β':bU} {P:Program} {Γ:Env} {ops:Array Oper}
theorem aiW {c:Code} {Q:Exit→Act→World→Prop} (J:Nat→Act→World→Prop) (n:Nat) (h₀:J n a w)
 (round:∀n a w,J n a w→c.wp P (Exit.then (fun ct w'=>∃m,m<n∧J m ct w') Q) a w):(Code.loop c).wp P Q a w:=by
 intro b k cs
 have key:∀n a w,J n a w→
  ∃e ct w',Q e ct w'∧Arrives P (lone (b.at a (.code c:: .inLoop c::k)) cs w) b k cs e ct w':=by
  intro n
  induction n using Nat.strongRecOn with
  |_ n cM=>
   intro a w hJ
   obtain⟨e,hz,hB,a7,fV⟩:=round n a w hJ b (.inLoop c::k) cs
   cases e with
   |normal=>
    obtain⟨m,bw,QG⟩:=a7
    obtain⟨Bt,Bu,Bv,Bd,A1⟩:=cM m bw hz hB QG
    exact⟨Bt,Bu,Bv,Bd,.of_steps (Steps.trans fV (.one step_inLoop)) A1⟩
   |exit id=>exact⟨_,hz,hB,a7,.pass (x:= .inLoop c) rfl (fun _ _=> .inl (by simp)) fV⟩
   |goto l=>exact⟨_,hz,hB,a7,.pass (x:= .inLoop c) rfl (fun _ _=> .inl (by simp)) fV⟩
   |ret=>exact⟨_,hz,hB,a7,.pass (x:= .inLoop c) rfl (fun _ _=> .inl (by simp)) fV⟩
   |panic yC=>exact⟨_,hz,hB,a7,.pass (x:= .inLoop c) rfl (fun _ _=> .inl (by simp)) fV⟩
   |outgrown=>exact⟨_,hz,hB,a7,.pass (x:= .inLoop c) rfl (fun _ _=> .inl (by simp)) fV⟩
 obtain⟨e,ct,w',a7,fV⟩:=key n a w h₀
 exact⟨e,ct,w',a7,.of_steps (.one step_loop) fV⟩
def Dx (N:Nat) (aU:eW) (aP:Mem) (R:bU) (Q:e6→St→Prop):Exit→Act→World→Prop
 | .normal,a,w=>iS N aU aP R (Q .normal) a w
 | .exit id,a,w=>iS N aU aP R (Q (.exit id)) a w
 | .ret,a,w=>iS N aU aP R (Q .ret) a w
 |_,_,_=>False
theorem OQ {M:Nat} {id:Nat} {drawn:Bool} {lc:ay} (h:ed P M (.region id ops drawn)=some lc):
 ∃l,xP P M ops ops.toList=some l∧((drawn=false∧lc= .cR l)∨(drawn=true∧GJ (Region.before ops) (l.take (ops.size - jC (Region.before ops) ops.size))=true∧CX ops=true∧
  lc= .kd (C4 (Region.before ops) (l.take (ops.size - jC (Region.before ops) ops.size))) (l.drop (ops.size - jC (Region.before ops) ops.size)))):=by
 cases drawn with
 |false=>
  obtain⟨l,h1,rfl⟩:=map_some h
  exact⟨l,h1,.inl ⟨rfl,rfl⟩⟩
 |true=>
  simp only[ed]at h
  split at h
  ·rename_i l aJ
   split at h
   ·rename_i au
    simp only[Bool.and_eq_true]at au
    simp only[Option.some.injEq]at h
    exact⟨l,aJ,.inr ⟨rfl,au.1.2,au.2,h.symm⟩⟩
   ·cases h
  ·cases h
theorem ah4 (hm:P.follows .mixedOrders=true) (c0:ae P aP Γ) {M:Nat} (cb:M≤N) {id:Nat} {drawn:Bool} {lc:ay} (ah:ed P M (.region id ops drawn)=some lc) {Q:e6→St→Prop}
 (h:bl N aU aP R σ a w rd β) (af:cp Γ lc Q σ):(Code.region id ops drawn).wp P (Dx N aU aP R Q) a w:=by
 obtain⟨l,aJ,⟨rfl,rfl⟩|⟨rfl,rv,cA,rfl⟩⟩:=OQ ah
 ·simp only[cp]at af
  exact wp_region (Kn c0 cb (fun _ _ h=>h) _ _ (Gn aJ) h af)
 ·simp only[cp]at af
  refine wp_region_any hm ?_
  have gY:=Gn aJ
  have hlen:l.length=ops.size:=by rw[←gY.length,List.length_range]
  obtain⟨β',aL⟩:=bl.k8 (C4 (Region.before ops) (l.take (ops.size - jC (Region.before ops) ops.size))) h
  have MP:(l.take (ops.size - jC (Region.before ops) ops.size)).length=ops.size - jC (Region.before ops) ops.size:=by rw[List.length_take];omega
  have fQ:∀i,(Array.replicate ops.size false).getD i false=false:=fun i=>by
   rw[Array.getD_eq_getD_getElem?,Array.getElem?_replicate]
   split<;>rfl
  refine YS c0 cb gY cA (Nat.sub_le _ _) (fun j h1 h2=>OD h1 h2) rv (fun _ _ h=>h) ops.size (rem:=(l.take (ops.size - jC (Region.before ops) ops.size)).zipIdx) (List.Sublist.refl _) ?_ (by simp)
   (fun k o bu cn=>by rw[fQ]at cn;cases cn) (fun i o Tb=> ?_) (fun i _ _=>fQ i) aL.drew (by
    have:C4 (Region.before ops) (l.take (ops.size - jC (Region.before ops) ops.size))=(l.take (ops.size - jC (Region.before ops) ops.size)).zipIdx.map (tag (Region.before ops) (l.take (ops.size - jC (Region.before ops) ops.size))):=rfl
    rw[←this];exact af)
  ·rw[List.length_zipIdx,MP];omega
  ·rw[List.mem_zipIdx_iff_getElem?]
   simp only[fQ,iff_true]
   exact Tb
theorem Gy (hm:P.follows .mixedOrders=true) (c0:ae P aP Γ) {M:Nat} (cb:M≤N):∀(c:Code) {lc:ay} {Q:e6→St→Prop} {σ:St} {a:Act} {w:World} {rd:Mem} {β:bU},ed P M c=some lc→
 bl N aU aP R σ a w rd β→cp Γ lc Q σ→c.wp P (Dx N aU aP R Q) a w:=by
 intro c
 induction c with
 |skip=>
  intro lc Q σ a w rd β ah h af
  simp only[ed,Option.some.injEq]at ah;subst ah
  exact wp_skip ⟨σ,rd,β,af,h⟩
 |region id ops drawn=>
  intro lc Q σ a w rd β ah h af
  exact ah4 hm c0 cb ah h af
 |seq x y lq sT=>
  intro lc Q σ a w rd β ah h af
  simp only[ed]at ah
  split at ah
  ·rename_i da hK aj hy
   simp only[Option.some.injEq]at ah;subst ah
   simp only[cp]at af
   refine wp_seq (wp_mono (lq aj h af) fun e ct w' he=> ?_)
   cases e with
   |normal=>obtain⟨σ',rd',β',h1,h2⟩:=he;exact sT hy h2 h1
   |exit id=>exact he
   |ret=>exact he
   |_=>exact he.elim
  ·cases ah
 |cond MQ x y lq sT=>
  intro lc Q σ a w rd β ah h af
  simp only[ed]at ah
  split at ah
  ·rename_i a3 da hK au aj hy
   simp only[Option.some.injEq]at ah;subst ah
   simp only[cp]at af
   have ar:=e4 h au
   split at af
   ·rename_i t B4
    rw[B4]at ar
    simp only[aX,bA]at ar
    cases t with
    |true=>exact wp_cond_true ar (lq aj h (af.1 rfl))
    |false=>exact wp_cond_false ar (sT hy h (af.2 rfl))
   ·exact af.elim
  ·cases ah
 |block id x cM=>
  intro lc Q σ a w rd β ah h af
  simp only[ed]at ah
  obtain⟨da,aj,rfl⟩:=map_some ah
  simp only[cp]at af
  refine wp_block (wp_mono (cM aj h af) fun e ct w' he=> ?_)
  cases e with
  |normal=>exact he
  |exit j=>
   obtain⟨σ',rd',β',h1,h2⟩:=he
   simp only at h1
   unfold Exit.inBlock
   simp only
   split at h1
   ·rename_i aH;rw[if_pos aH];exact⟨σ',rd',β',h1,h2⟩
   ·rename_i aH;rw[if_neg aH];exact⟨σ',rd',β',h1,h2⟩
  |ret=>exact he
  |_=>exact he.elim
 |loop x cM=>
  intro lc Q σ a w rd β ah h af
  simp only[ed]at ah
  obtain⟨da,aj,rfl⟩:=map_some ah
  simp only[cp,A5]at af
  obtain⟨I,eI,h0,hJ⟩:=af
  refine aiW (fun n a w=>iS N aU aP R (fun s=>I s∧eI s=n) a w) (eI σ) ⟨σ,rd,β,⟨h0,rfl⟩,h⟩ ?_
  rintro n a w ⟨s,rd',β',⟨h1,rfl⟩,h2⟩
  refine wp_mono (cM aj h2 (hJ s h1)) fun e ct w' he=> ?_
  cases e with
  |normal=>
   obtain⟨dM,gb,kk,⟨bE,bM⟩,bn⟩:=he
   exact⟨eI dM,bM,dM,gb,kk,⟨bE,rfl⟩,bn⟩
  |exit j=>exact he
  |ret=>exact he
  |_=>exact he.elim
 |exit id=>
  intro lc Q σ a w rd β ah h af
  simp only[ed,Option.some.injEq]at ah;subst ah
  exact wp_exit ⟨σ,rd,β,af,h⟩
 |ret=>
  intro lc Q σ a w rd β ah h af
  simp only[ed,Option.some.injEq]at ah;subst ah
  exact wp_ret ⟨σ,rd,β,af,h⟩
 |_=>intro lc Q σ a w rd β ah h af;cases ah
end
end RV
namespace RV
open Go Go.RowKit
section
variable {N:Nat} {aU:eW} {aP:Mem} {R:bU} {σ σ':St} {a:Act} {w w':World} {rd rd':Mem} {β β':bU} {P:Program} {Γ:Env} {ops:Array Oper}
theorem iZ.toBelow {aU w:World} (h:iZ (fun _=>none) aU w):Below aU.heap.size aU w:=by
 refine⟨h.os,h.tape,h.output,h.size,fun k af=> ?_⟩
 rcases h.block k af with e|⟨c,t,cE,c',h1,h2,aq,aE⟩
 ·exact e
 ·have:c'=c:=by
   apply Array.ext_getElem?
   intro i
   exact aE i (by simp)
  rw[h1,h2,this]
theorem YT {ds:List D} {vs:Array Value} (ar:bV rd ds vs.toList) (k:Nat) (t:Nat):
 aX rd β ((tV ds).ag t) ((vs++Array.replicate k undef).getD t undef):=by
 have hlen:=yN ar
 simp only[Array.length_toList]at hlen
 simp only[tV]
 cases aL:ds[t]? with
 |some d=>
  obtain⟨v,aC,Tc⟩:=Pn ar aL
  simp only[Array.getElem?_toList]at aC
  have ah:=(Array.getElem?_eq_some_iff.1 aC).1
  have:(vs++Array.replicate k undef).getD t undef=v:=by
   rw[Array.getD_eq_getD_getElem?,Array.getElem?_append_left ah,aC];rfl
  rw[this]
  exact tq Tc
 |none=>
  have ah:vs.size≤t:=by
   have:=List.getElem?_eq_none_iff.1 aL
   omega
  have:(vs++Array.replicate k undef).getD t undef=undef:=by
   rw[Array.getD_eq_getD_getElem?,Array.getElem?_append_right ah,Array.getElem?_replicate]
   split<;>rfl
  rw[this]
  simp only[aX]
theorem KC {ds:List D} {vs:Array Value} (hm:b7 rd w.cell?) (ar:bV rd ds vs.toList) (k:Nat) (af:(vs++Array.replicate k undef).size=N):
 bl N w.base rd (fun _=>none) (tV ds) { tmps:=vs++Array.replicate k undef,defers:=[] } w rd (fun _=>none)where
 size:=af
 defers:=rfl
 cV:=iZ.refl _ _
 dy:=fun k o af=>by cases af
 c3:=hm
 dK:=b7.refl _
 aP:=fun a v h _=>h
 eX:=fun i r b h=>by cases h
 eY:=fun t=>YT ar k t
 box:=fun i r h=>by cases h
 eL:=fun i b h=>by cases h
 eR:=fun i j aD iQ _ h=>by cases h
theorem aiX (h:bl N aU aP R σ a w rd β) {r:ResultVar} {l:bx} (ah:Qg P r=some l) {v:ai} (aJ:Dq σ l=some v):
 ∃u,(match r with| .tmp t=>pure (a.tmps.getD t undef)| .cell x t=>do loadVar t (←asAddr (a.tmps.getD x undef)):Sem Value).run P w= .ok u w∧aX rd β v u:=by
 cases r with
 |tmp t=>
  simp only[Qg,Option.some.injEq]at ah;subst ah
  simp only[Dq,Option.some.injEq]at aJ;subst aJ
  exact⟨_,rfl,h.eY t⟩
 |cell x t=>
  obtain⟨N3,aC,rfl⟩:=map_some ah
  obtain⟨n,g⟩:=N3
  simp only[Dq]at aJ
  have ar:=h.eY x
  split at aJ
  ·rename_i i off aj
   rw[aj]at ar
   simp only[aX]at ar
   obtain⟨rg,g9,hu⟩:=ar
   split at aJ
   ·rename_i f e cs aw
    obtain⟨dc,iy,cA,_⟩:=h.box i rg g9
    rw[aw]at iy;simp only[Option.some.injEq]at iy;subst iy
    have fH:=cA.2
    have same:∀{u:Value},(Instr.loadAt t (.pointer (some (cellAt rg.cc (rg.off+off))))).run P w= .ok u w→(do loadVar t (←asAddr (a.tmps.getD x undef)):Sem Value).run P w= .ok u w:=by
     intro u kF
     rw[hu]
     simpa only[Instr.loadAt,Instr.sureAddr,asAddr,Sem.run_bind,Sem.run_pure,Result.andThen_ok]using kF
    cases g with
    |true=>
     simp only[if_true]at aJ
     split at aJ
     ·rename_i hle
      simp only[Option.some.injEq]at aJ;subst aJ
      obtain⟨u,bE,bM,_⟩:=Kj (P:=P) aC ((fH.drop off).take n) (by simp;omega)
      exact⟨u,same bE,bM rfl⟩
     ·cases aJ
    |false=>
     simp only[Bool.false_eq_true,if_false]at aJ
     have aQ:=Pk aC
     subst aQ
     have bw:=(List.getElem?_eq_some_iff.1 aJ).1
     have adH:(cs.drop off).take 1=[v]:=by
      rw[List.drop_eq_getElem_cons bw]
      rw[List.getElem?_eq_getElem bw]at aJ
      simp only[Option.some.injEq]at aJ
      simp[aJ]
     obtain⟨u,bE,_,bn⟩:=Kj (P:=P) aC ((fH.drop off).take 1) (by rw[adH];rfl)
     exact⟨u,same bE,bn rfl v adH⟩
   ·cases aJ
  ·cases aJ
theorem Gq {α:Type} {f:α→Sem Value} {us:List Value} :∀(l:List α),kC (fun x u=>(f x).run P w= .ok u w) l us→(l.mapM f).run P w= .ok us w:=by
 intro l h
 induction h with
 |nil=>rfl
 |cons h0 _ cM=>simp only[List.mapM_cons,Sem.run_bind,h0,Result.andThen_ok,cM,Sem.run_pure]
theorem CF (h:bl N aU aP R σ a w rd β):∀{rs:List ResultVar} {ls:List bx} {vs:List ai},yY P rs=some ls→tA σ ls=some vs→
 ∃us,kC (fun(r:ResultVar) u=>(match r with| .tmp t=>pure (a.tmps.getD t undef)| .cell x t=>do loadVar t (←asAddr (a.tmps.getD x undef)):Sem Value).run P w= .ok u w) rs us∧b6 rd β vs us
 |[],_,_,ah,aJ=>by
  simp only[yY,Option.some.injEq]at ah;subst ah
  simp only[tA,Option.some.injEq]at aJ;subst aJ
  exact⟨[],.nil,by simp only[b6]⟩
 |r::rs,_,_,ah,aJ=>by
  simp only[yY]at ah
  split at ah
  ·rename_i l ls h1 h2
   simp only[Option.some.injEq]at ah;subst ah
   simp only[tA]at aJ
   split at aJ
   ·rename_i v vs aq aE
    simp only[Option.some.injEq]at aJ;subst aJ
    obtain⟨u,bE,bM⟩:=aiX (P:=P) h h1 aq
    obtain⟨us,bn,h5⟩:=CF h h2 aE
    exact⟨u::us,.cons bE bn,by simp only[b6];exact⟨u,us,rfl,bM,h5⟩⟩
   ·cases aJ
  ·cases ah
theorem Pu {ds:List D} {us:List Value} (h:bV rd ds us):bA rd (zi ds) (if dW:us.toArray.size=1 then us.toArray[0]else .tuple us.toArray):=by
 match ds,us,h with
 |[],us,h=>simp only[bV]at h;subst h;simp only[zi];simp[bA,bV]
 |[d],us,h=>
  simp only[bV]at h
  obtain⟨v,qm,rfl,h1,rfl⟩:=h
  simpa [zi]using h1
 |d::rY::ds,us,h=>
  have aJ:=yN h
  have:¬us.toArray.size=1:=by simp[aJ]
  rw[dif_neg this]
  simp only[zi,bA]
  exact⟨_,rfl,by simpa using h⟩
theorem He {fn:Func} {sU:List bx} (gd:yY P fn.results.toList=some sU) {C:bC} (bu:C.own=false) {ds:List D} {M:Nat} :iS M w.base rd (fun _=>none) (fun σ=>kA sU σ fun d=>d=C.res ds) a w'→
 a.defers=[]∧∃v,(results fn a.tmps).run P w'= .ok v w'∧(∃fb,Ending.returned v= .returned fb∧Below w.heap.size w w'∧zl C rd w w' (C.res ds) fb):=by
 have EL:w.base.heap.size=w.heap.size:=rfl
 rintro⟨σ,rd',β,ar,di⟩
 refine⟨di.defers,?_⟩
 unfold kA at ar
 split at ar
 ·rename_i kI aJ
  obtain⟨HJ,ar⟩:=ar
  split at ar
  ·rename_i tW hE
   obtain⟨us,bE,bM⟩:=CF di gd aJ
   have zL:=toDs_rep di (S:=ja β kI) kI us tW hE bM fun i r aV hi eC fz=>⟨i,r,hi,eC,fz⟩
   have hle:b7 (plus w' (ja β kI) rd') (jR w w' rd):=fun aV v e=>by
    unfold jR
    split
    ·rename_i bw
     by_cases aG:ja β kI aV
     ·exfalso
      obtain⟨i,r,hi,eC,a9⟩:=aG
      obtain⟨b,aj,_,_,gZ,_⟩:=di.box i r eC
      have:=(gZ (yV kI HJ i b hi aj)).1
      have:=a9.1
      omega
     ·rw[wy aG]at e
      exact di.aP aV v e bw
    ·exact wC di.c3 aV v e
   refine⟨_,?_,_,rfl,di.cV.toBelow,fun _=>ar▸Pu (bV.mono hle _ _ zL),fun au=>by rw[bu]at au;cases au⟩
   have vn:=Gq (P:=P) (w:=w') fn.results.toList bE
   unfold results
   rw[Array.mapM_eq_mapM_toList]
   simp only[Sem.run_bind,Sem.run_map]
   exact congrArg (fun r:Result (List Value)=>(r.andThen fun a w'=>Result.ok a.toArray w').andThen fun(a:Array Value) w'=>Sem.run P (pure (if h:a.size=1 then a[0]else Value.tuple a)) w') vn
  ·exact ar.elim
 ·exact ar.elim
theorem ax (hm:P.follows .mixedOrders=true) {B:Mem} (c0:ae P B Γ) {f:Nat} {fn:Func} (fR:P.funcs[f]? =some fn) (vG:(fn.name== "runtime.NumGoroutine")=false) {lc:ay} {rs:List bx} (hf:a0 P f=some (lc,rs)) {C:bC}
 (h:∀ds,C.pre ds→bT Γ lc rs ds fun d=>d=C.res ds) (bu:C.own=false:=by rfl):ld P B f C:=by
 simp only[a0,fR]at hf
 split at hf
 ·rename_i c au
  split at hf
  ·rename_i l sU ah gd
   simp only[Option.some.injEq,Prod.mk.injEq]at hf
   obtain⟨rfl,rfl⟩:=hf
   refine⟨⟨fn,fR,vG,by rw[au];rfl⟩,fun ds a1 w rd vs ad sx fQ=> ?_⟩
   have af:=h ds a1
   unfold bT at af
   refine calls_of_wp fR au ?_
   have EL:w.base.heap.size=w.heap.size:=rfl
   have vd:=KC (N:=(vs++Array.replicate (fn.ntmps - vs.size) undef).size) sx fQ (fn.ntmps - vs.size) rfl
   refine wp_mono (Gy hm (c0.mono ad) (M:=fn.ntmps) (by simp;omega) c ah vd af) ?_
   intro e a w' he
   have done:=fun h=>He (a:=a) (w':=w') gd bu (ds:=ds) (M:=(vs++Array.replicate (fn.ntmps - vs.size) undef).size) (w:=w) (rd:=rd) h
   cases e with
   |normal=>exact done he
   |ret=>exact done he
   |exit id=>obtain⟨_,_,_,h1,_⟩:=he;exact h1.elim
   |_=>exact he.elim
  ·cases hf
 ·cases hf
theorem tt (hm:P.follows .mixedOrders=true) {B:Mem} (c0:ae P B Γ) {f:Nat} {fn:Func} (fR:P.funcs[f]? =some fn) (vG:(fn.name== "runtime.NumGoroutine")=false) {lc:ay} {rs:List bx} (hf:a0 P f=some (lc,rs)) {C:bC}
 (h:∀ds,C.pre ds→HC Γ lc rs ds fun d=>d=C.res ds) (bu:C.own=true:=by rfl):ld P B f C:=by
 simp only[a0,fR]at hf
 split at hf
 ·rename_i c au
  split at hf
  ·rename_i l sU ah gd
   simp only[Option.some.injEq,Prod.mk.injEq]at hf
   obtain⟨rfl,rfl⟩:=hf
   refine⟨⟨fn,fR,vG,by rw[au];rfl⟩,fun ds a1 w rd vs ad sx fQ=> ?_⟩
   have af:=h ds a1
   unfold HC at af
   refine calls_of_wp fR au ?_
   have EL:w.base.heap.size=w.heap.size:=rfl
   have vd:=KC (N:=(vs++Array.replicate (fn.ntmps - vs.size) undef).size) sx fQ (fn.ntmps - vs.size) rfl
   refine wp_mono (Gy hm (c0.mono ad) (M:=fn.ntmps) (by simp;omega) c ah vd af) ?_
   intro e a w' he
   have done:iS (vs++Array.replicate (fn.ntmps - vs.size) undef).size w.base rd (fun _=>none) (fun σ=>HB sU σ fun d=>d=C.res ds) a w'→
    a.defers=[]∧∃v,(results fn a.tmps).run P w'= .ok v w'∧(∃fb,Ending.returned v= .returned fb∧Below w.heap.size w w'∧zl C rd w w' (C.res ds) fb):=by
    rintro⟨σ,rd',β,ar,di⟩
    refine⟨di.defers,?_⟩
    unfold HB at ar
    split at ar
    ·rename_i t
     have aJ:tA σ [.tmp t]=some [σ.ag t]:=rfl
     obtain⟨us,bE,bM⟩:=CF di gd aJ
     simp only[b6]at bM
     obtain⟨v,qm,rfl,aC,rfl⟩:=bM
     have main:∀{i lo n:Nat} {c:BC} {d:D},σ.ag t= .own i lo n→lo=0→σ.az i=some ⟨false,false,c⟩→jF d=some (c,n)→d=C.res ds→PK w w' (C.res ds) v:=by
      intro i lo n c d a4 ln bc iz aL
      subst ln
      rw[a4]at aC
      simp only[aX]at aC
      obtain⟨A,cap,rfl,aQ,hA⟩:=aC
      refine⟨c,n,A,cap,by rw[←aL];exact iz,rfl,aQ,?_⟩
      rcases hA with h0|⟨r,hi,hA,tG⟩
      ·exact .inl h0
      ·obtain⟨b,aw,ho,zS,gZ,_⟩:=di.box i r hi
       rw[bc]at aw
       simp only[Option.some.injEq]at aw
       subst aw
       obtain⟨cC,c9⟩:=gZ rfl
       refine .inr ⟨r,c9,cC,zS,?_,by rw[hA,Nat.zero_mul,Nat.add_zero],by have:=tG c9;omega⟩
       cases d with
       |ints k xs=>
        simp only[jF,Option.some.injEq,Prod.mk.injEq]at iz
        obtain⟨rfl,rfl⟩:=iz
        exact ho
       |flts xs=>
        simp only[jF,Option.some.injEq,Prod.mk.injEq]at iz
        obtain⟨rfl,rfl⟩:=iz
        exact ho
       |_=>simp[jF]at iz
     have po:PK w w' (C.res ds) v:=by
      split at ar
      ·rename_i i lo n a4
       split at ar
       ·rename_i k xs bc
        exact main a4 ar.1 bc (by simp only[jF,ar.2.1]) ar.2.2
       ·rename_i xs bc
        exact main a4 ar.1 bc (by simp only[jF,ar.2.1]) ar.2.2
       ·exact ar.elim
      ·exact ar.elim
     refine⟨_,?_,v,rfl,di.cV.toBelow,(show zl C rd w w' (C.res ds) v from ⟨fun au=>(by rw[bu]at au;cases au),fun _=>po⟩)⟩
     have vn:=Gq (P:=P) (w:=w') fn.results.toList bE
     unfold results
     rw[Array.mapM_eq_mapM_toList]
     simp only[Sem.run_bind,Sem.run_map]
     exact congrArg (fun r:Result (List Value)=>(r.andThen fun a w'=>Result.ok a.toArray w').andThen fun(a:Array Value) w'=>Sem.run P (pure (if h:a.size=1 then a[0]else Value.tuple a)) w') vn
    ·exact ar.elim
   cases e with
   |normal=>exact done he
   |ret=>exact done he
   |exit id=>obtain⟨_,_,_,h1,_⟩:=he;exact h1.elim
   |_=>exact he.elim
  ·cases hf
 ·cases hf
end
end RV
namespace RV
open Go Go.RowKit
section
variable {N:Nat} {aU:eW} {aP:Mem} {R E:bU} {σ σ':St} {a:Act} {w w':World} {rd rd':Mem} {β β':bU} {P:Program} {Γ:Env} {ops:Array Oper}
theorem ajx {as:List ai} {vs:Array Value} (ar:b6 rd β as vs.toList) (k:Nat) (t:Nat) (cs:List BC):
 aX rd β ((wQ as cs).ag t) ((vs++Array.replicate k undef).getD t undef):=by
 have hlen:=yL ar
 simp only[Array.length_toList]at hlen
 simp only[wQ]
 cases aL:as[t]? with
 |some d=>
  obtain⟨v,aC,Tc⟩:=OL ar aL
  simp only[Array.getElem?_toList]at aC
  have ah:=(Array.getElem?_eq_some_iff.1 aC).1
  have:(vs++Array.replicate k undef).getD t undef=v:=by
   rw[Array.getD_eq_getD_getElem?,Array.getElem?_append_left ah,aC];rfl
  rw[this]
  exact Tc
 |none=>
  have ah:vs.size≤t:=by
   have:=List.getElem?_eq_none_iff.1 aL
   omega
  have:(vs++Array.replicate k undef).getD t undef=undef:=by
   rw[Array.getD_eq_getD_getElem?,Array.getElem?_append_right ah,Array.getElem?_replicate]
   split<;>rfl
  rw[this]
  simp only[aX]
theorem Xv {m:Nat} :∀{n k:Nat} {cs:List BC},uV σ m k n=some cs→cs.length=n∧∀(j:Nat) (c:BC),cs[j]? =some c→c.tidy (xX m)=true∧∃f,σ.az (b0+k+j)=some ⟨f,true,c⟩
 |0,k,cs,h=>by simp only[uV,Option.some.injEq]at h;subst h;simp
 |n+1,k,cs,h=>by
  simp only[uV]at h
  split at h
  ·rename_i f c r aw ar
   split at h
   ·rename_i a1
    simp only[Option.some.injEq]at h;subst h
    obtain⟨h1,h2⟩:=Xv ar
    refine⟨by simp[h1],fun j c' aH=> ?_⟩
    cases j with
    |zero=>simp only[List.getElem?_cons_zero,Option.some.injEq]at aH;subst aH;exact⟨a1,f,aw⟩
    |succ j=>
     have:=h2 j c' (by simpa using aH)
     rw[show b0+(k+1)+j=b0+k+(j+1)by omega]at this
     exact this
   ·cases h
  ·cases h
theorem aiY {p:Nat→Bool} (g9:∀i,p i=true→β' i=β i) {r:dp} {c:BC} (ah:c.tidy p=true) (h:fq w rd β r c):fq w rd β' r c:=by
 cases c with
 |cells cs=>
  have key:∀(l:List ai) (o:Nat),ai.ht p l=true→cX w rd β r.cc o l→cX w rd β' r.cc o l:=by
   intro l
   induction l with
   |nil=>intro o _ _;trivial
   |cons v vs cM=>
    intro o ah H
    obtain⟨⟨u,e,H1⟩,fk⟩:=H
    simp only[ai.ht,Bool.and_eq_true]at ah
    exact⟨⟨u,e,aX.congr v u (fun j aH=>g9 j (YJ v ah.1 j aH)) H1⟩,cM (o+1) ah.2 fk⟩
  exact⟨h.1,key cs _ ah h.2⟩
 |ints k xs=>exact h
 |flts xs=>exact h
 |recs sz xs=>exact h
theorem ei (hm:P.follows .mixedOrders=true) {B:Mem} (c0:ae P B Γ) {f:Nat} {fn:Func} (fR:P.funcs[f]? =some fn) (vG:(fn.name== "runtime.NumGoroutine")=false) {lc:ay} {rs:List bx} (hf:a0 P f=some (lc,rs)) {C:hg}
 (h:∀as cs,C.pre as cs→vk Γ lc rs as cs fun d cs'=>d=C.res as cs∧cs'=C.out as cs):MK P B f C:=by
 simp only[a0,fR]at hf
 split at hf
 ·rename_i c au
  split at hf
  ·rename_i l sU ah gd
   simp only[Option.some.injEq,Prod.mk.injEq]at hf
   obtain⟨rfl,rfl⟩:=hf
   refine⟨⟨fn,fR,vG,by rw[au];rfl⟩,fun as cs a1 w rd regs vs zM ad sx fQ ig Rc amJ=> ?_⟩
   have af:=h as cs a1
   unfold vk at af
   refine calls_of_wp fR au ?_
   have EL:w.base.heap.size=w.heap.size:=rfl
   have vd:bl (vs++Array.replicate (fn.ntmps - vs.size) undef).size w.base rd (jk regs) (wQ as cs) { tmps:=vs++Array.replicate (fn.ntmps - vs.size) undef,defers:=[] } w rd (jk regs):= {
    size:=rfl
    defers:=rfl
    cV:=iZ.refl _ _
    dy:=fun k o af=>by cases af
    c3:=sx
    dK:=b7.refl _
    aP:=fun a v h _=>h
    eX:=fun i r b hi aw br aV fz=>by
     obtain⟨k,rfl,af⟩:=KJ hi
     have bw:k<cs.length:=by rw[←zM];exact(List.getElem?_eq_some_iff.1 af).1
     exact(ig k _ r (List.getElem?_eq_getElem bw) af).2.2.2 aV fz
    eY:=fun t=>ajx fQ _ t cs
    box:=fun i r hi=>by
     obtain⟨k,rfl,af⟩:=KJ hi
     have bw:k<cs.length:=by rw[←zM];exact(List.getElem?_eq_some_iff.1 af).1
     obtain⟨h1,h2,aq,aE⟩:=ig k _ r (List.getElem?_eq_getElem bw) af
     refine⟨⟨false,true,cs[k]⟩,?_,h1,h2,(fun e=>by cases e),fun _=>⟨hi,aq⟩⟩
     simp only[wQ]
     rw[if_pos (by omega),show b0+k - b0=k by omega,List.getElem?_eq_getElem bw]
     rfl
    eL:=fun i b aw hi=>by
     simp only[wQ]at aw
     split at aw
     ·rename_i hle
      cases cT:cs[i - b0]? with
      |none=>rw[cT]at aw;cases aw
      |some c'=>
       rw[cT]at aw
       simp only[Option.map_some,Option.some.injEq]at aw
       subst aw
       have bw:i - b0<regs.length:=by rw[zM];exact(List.getElem?_eq_some_iff.1 cT).1
       have bh:regs[i - b0]? =some none:=by
        rw[List.getElem?_eq_getElem bw]
        cases e:regs[i - b0]with
        |none=>rfl
        |some r=>
         have:=Hc (regs:=regs) (k:=i - b0) (x:=some r) (by rw[List.getElem?_eq_getElem bw,e])
         rw[show b0+(i - b0)=i by omega,hi]at this
         cases this
       exact⟨fun _=>hi,Rc _ c' cT bh⟩
     ·cases aw
    eR:=amJ }
   refine wp_mono (Gy hm (c0.mono ad) (M:=fn.ntmps) (by simp;omega) c ah vd af) ?_
   intro e a w' he
   have done:iS (vs++Array.replicate (fn.ntmps - vs.size) undef).size w.base rd (jk regs) (fun σ=>kA sU σ fun d=>match uV σ cs.length 0 cs.length with
    |some cs'=>d=C.res as cs∧cs'=C.out as cs
    |none=>False) a w'→
    a.defers=[]∧∃v,(results fn a.tmps).run P w'= .ok v w'∧(∃fb rd',Ending.returned v= .returned fb∧iZ (jk regs) w w'∧b7 rd rd'∧b7 rd' w'.cell?∧(∀aV v,rd' aV=some v→aV.block<w.heap.size→rd aV=some v)∧bA rd' (C.res as cs) fb∧
      (∀(k:Nat) (c:BC) (r:dp),(C.out as cs)[k]? =some c→regs[k]? =some (some r)→fq w' rd' (jk regs) r c)∧(∀(k:Nat) (c:BC),(C.out as cs)[k]? =some c→regs[k]? =some none→c.isNil=true)):=by
    rintro⟨σ,rd',β,ar,di⟩
    refine⟨di.defers,?_⟩
    unfold kA at ar
    split at ar
    ·rename_i kI aJ
     obtain⟨HJ,ar⟩:=ar
     split at ar
     ·rename_i tW hE
      split at ar
      ·rename_i cs' amK
       obtain⟨cu,rfl⟩:=ar
       obtain⟨v3,df⟩:=Xv amK
       obtain⟨us,bE,bM⟩:=CF di gd aJ
       have zL:=toDs_rep di (S:=ja β kI) kI us tW hE bM fun i r aV hi eC fz=>⟨i,r,hi,eC,fz⟩
       have acE:b7 rd w'.cell? :=fun aV v e=>by
        have bw:=yQ (sx aV v e)
        have fB:=sx aV v e
        rcases di.cV.block aV.block bw with e'|⟨c,t,cE,c',h1,h2,aq,aE⟩
        ·rw[uH e'];exact fB
        ·have h1:w.heap[aV.block]? =some (.cells c t cE):=h1
         simp only[World.cell?,h1]at fB
         simp only[World.cell?,h2]
         split at fB
         ·cases fB
         ·rename_i pG
          rw[if_neg pG]
          rw[aE aV.off fun j r aH eC=> ?_]
          ·exact fB
          ·obtain⟨k,rfl,af⟩:=KJ aH
           have bw:k<cs.length:=by rw[←zM];exact(List.getElem?_eq_some_iff.1 af).1
           have fz:r.has aV:=eC
           have:=(ig k _ r (List.getElem?_eq_getElem bw) af).2.2.2 aV fz
           rw[e]at this;cases this
       let m:Mem:=fun aV=>match rd aV with|some v=>some v|none=>plus w' (ja β kI) rd' aV
       have jh:b7 rd m:=fun aV v e=>by simp[m,e]
       have Is:b7 m w'.cell? :=fun aV v e=>by
        simp only[m]at e
        split at e
        ·rename_i u hu;rw[←e];exact acE aV u hu
        ·exact wC di.c3 aV v e
       have ET:b7 (plus w' (ja β kI) rd') m:=fun aV v e=>by
        simp only[m]
        split
        ·rename_i u hu
         have h1:=acE aV u hu
         have h2:=wC di.c3 aV v e
         rw[h1]at h2;exact h2
        ·exact e
       have aoi:∀aV v,m aV=some v→aV.block<w.heap.size→rd aV=some v:=fun aV v e bw=>by
        simp only[m]at e
        split at e
        ·rename_i u hu;rw[hu];exact e
        ·by_cases aG:ja β kI aV
         ·exfalso
          obtain⟨i,r,hi,eC,a9⟩:=aG
          obtain⟨b,aj,_,_,gZ,_⟩:=di.box i r eC
          have:=(gZ (yV kI HJ i b hi aj)).1
          have:=a9.1
          omega
         ·rw[wy aG]at e
          exact di.aP aV v e bw
       refine⟨_,?_,_,m,rfl,di.cV,jh,Is,aoi,cu▸Pu (bV.mono ET _ _ zL),fun k c r cT kB=> ?_,fun k c cT kB=> ?_⟩
       ·have vn:=Gq (P:=P) (w:=w') fn.results.toList bE
        unfold results
        rw[Array.mapM_eq_mapM_toList]
        simp only[Sem.run_bind,Sem.run_map]
        exact congrArg (fun r:Result (List Value)=>(r.andThen fun a w'=>Result.ok a.toArray w').andThen fun(a:Array Value) w'=>Sem.run P (pure (if h:a.size=1 then a[0]else Value.tuple a)) w') vn
       ·obtain⟨afF,aho,aw⟩:=df k c cT
        rw[Nat.add_zero]at aw
        have LA:=Hc kB
        cases g9:β (b0+k)with
        |none=>
         have:=(di.eL _ _ aw g9).1 rfl
         rw[LA]at this;cases this
        |some bX=>
         obtain⟨cy,et,adI,_,_,fi⟩:=di.box _ bX g9
         rw[aw]at et;simp only[Option.some.injEq]at et;subst et
         have:=(fi rfl).1
         rw[LA]at this
         simp only[Option.some.injEq]at this
         subst this
         have Bc:∀i,xX cs.length i=true→jk regs i=β i:=fun i hi=>by
          simp only[xX,Bool.and_eq_true,decide_eq_true_eq]at hi
          have bw:i - b0<(C.out as cs).length:=by omega
          obtain⟨_,f2,kl⟩:=df (i - b0) _ (List.getElem?_eq_getElem bw)
          rw[show b0+0+(i - b0)=i by omega]at kl
          cases adJ:β i with
          |none=>exact(di.eL _ _ kl adJ).1 rfl
          |some ch=>
           obtain⟨aR,Re,_,_,_,amL⟩:=di.box _ ch adJ
           rw[kl]at Re;simp only[Option.some.injEq]at Re;subst Re
           exact(amL rfl).1
         refine(aiY Bc afF adI).mono (b7.trans (pg _ _ _) ET) (fun _ _ _=>rfl) (fun _ _ v _ u H=>aX.mono (b7.trans (pg _ _ _) ET) v u H)
       ·obtain⟨afF,aho,aw⟩:=df k c cT
        rw[Nat.add_zero]at aw
        have LA:=Hc kB
        cases g9:β (b0+k)with
        |none=>exact(di.eL _ _ aw g9).2
        |some bX=>
         obtain⟨cy,et,adI,_,_,fi⟩:=di.box _ bX g9
         rw[aw]at et;simp only[Option.some.injEq]at et;subst et
         have:=(fi rfl).1
         rw[LA]at this;cases this
      ·exact ar.elim
     ·exact ar.elim
    ·exact ar.elim
   cases e with
   |normal=>exact done he
   |ret=>exact done he
   |exit id=>obtain⟨_,_,_,h1,_⟩:=he;exact h1.elim
   |_=>exact he.elim
  ·cases hf
 ·cases hf
end
end RV
namespace RV
open Go
section
variable {Γ:Env} {σ:St}
theorem aiZ {C:hg} {dst:Option Nat} {K fa:St→Prop} (cj:∀s,K s→fa s) {vs:List ai} (h:si C dst σ K vs):si C dst σ fa vs:=by
 unfold si wG at*
 split at h
 ·exact⟨h.1,h.2.1,h.2.2.1,cj _ h.2.2.2⟩
 ·exact h
theorem ai0 {C:bC} {dst:Option Nat} {K fa:St→Prop} (cj:∀s,K s→fa s) {vs:List ai} (h:u5 C dst σ K vs):u5 C dst σ fa vs:=by
 unfold u5 at*
 split at h
 ·refine⟨h.1,?_⟩
  have h2:=h.2
  by_cases bu:C.own=true
  ·rw[if_pos bu]at h2⊢
   split at h2
   ·exact cj _ h2
   ·exact h2
  ·rw[if_neg bu]at h2⊢
   split at h2
   ·rename_i au;rw[if_pos au];exact cj _ h2
   ·rename_i au;rw[if_neg au];exact⟨h2.1,cj _ h2.2⟩
 ·exact h
theorem OR {dst:Option Nat} {K fa:St→Prop} (cj:∀s,K s→fa s) {f:Nat} {vs:List ai} (h:sj Γ dst σ K f vs):sj Γ dst σ fa f vs:=by
 unfold sj at*
 split at h
 ·exact aiZ cj h
 ·exact ai0 cj h
 ·exact h
theorem KP {dst:Option Nat} {K fa:St→Prop} (cj:∀s,K s→fa s) {o:bJ} (h:db Γ dst σ K o):db Γ dst σ fa o:=by
 cases o with
 |alloc z=>simp only[db]at*;cases dst with
  |none=>exact h
  |some i=>exact cj _ h
 |nil z=>simp only[db]at*;cases dst with
  |none=>exact h
  |some i=>exact cj _ h
 |box x=>simp only[db]at*;cases dst with
  |none=>exact h
  |some i=>exact⟨h.1,h.2.1,cj _ h.2.2⟩
 |rq ek z n=>
  simp only[db]at*
  split at h
  ·split at h
   ·exact⟨h.1,h.2.1,cj _ h.2.2⟩
   ·exact h
  ·exact h.elim
 |store n x y=>
  simp only[db]at*
  split at h
  ·split at h
   ·refine⟨h.1,h.2.1,?_⟩
    have aq:=h.2.2
    split at aq
    ·exact cj _ aq
    ·exact aq.elim
   ·exact h.elim
  ·split at h
   ·refine⟨h.1,h.2.1,?_⟩
    have aq:=h.2.2
    split at aq
    ·exact cj _ aq
    ·exact aq.elim
   ·exact h.elim
  ·exact h.elim
 |app ek x y=>
  simp only[db]at*
  split at h
  ·split at h
   ·split at h
    ·exact⟨h.1,h.2.1,h.2.2.1,h.2.2.2.1,cj _ h.2.2.2.2⟩
    ·exact h
   ·exact h.elim
  ·exact h.elim
 |copy ek x y=>
  simp only[db]at*
  split at h
  ·split at h
   ·split at h
    ·exact⟨h.1,cj _ h.2⟩
    ·exact h
   ·exact h.elim
  ·exact h.elim
 |y9 x=>
  simp only[db]at*
  split at h
  ·exact⟨h.1,fun b aw=>cj _ (h.2 b aw)⟩
  ·exact h
 |call f as=>exact OR cj h
 |hS x as=>
  simp only[db]at*
  split at h
  ·exact OR cj h
  ·exact OR cj h
  ·exact h.elim
 |_=>
  simp only[db]at h⊢
  exact(Ps Γ σ _).mono (fun v=>K (σ.put dst v)) (fun v=>fa (σ.put dst v)) (fun v aC=>cj _ aC) h
theorem J8 {g:Option (Nat×Bool)} {y n e7 yz:Prop} (hy:y→e7) (aQ:n→yz) (h:guarded σ g y n):guarded σ g e7 yz:=by
 rw[yM]at*
 exact h.imp (fun h=>⟨h.1,hy h.2⟩) (fun h=>⟨h.1,aQ h.2⟩)
theorem AH {K fa:St→Prop} (cj:∀s,K s→fa s):∀{os:List bW} {σ:St},eQ Γ K os σ→eQ Γ fa os σ
 |[],_,h=>cj _ h
 |o::r,σ,h=>by
  simp only[eQ]at*
  exact J8 (KP fun s aG=>AH cj aG) (AH cj) h
theorem AJ {K fa:St→Prop} (cj:∀s,K s→fa s):∀{os:List (bW×List Nat)} {σ:St},c2 Γ K os σ→c2 Γ fa os σ
 |[],_,h=>cj _ h
 |(o,ck)::r,σ,h=>by
  rcases KO (Γ:=Γ) o ck with p|⟨f,as,C,cC,c9,fM⟩
  ·rw[tl _ _ _ p]at*
   obtain⟨cv,v,h1,h2⟩:=h
   exact⟨cv,v,h1,AJ cj h2⟩
  ·simp only[c2]at h⊢
   rw[yM]at h⊢
   rcases h with ⟨bE,bM⟩|⟨bE,bM⟩
   ·refine .inl ⟨bE,?_⟩
    rw[GZ cC c9 fM]at bM⊢
    obtain⟨s,_,s2,qF⟩:=KN bM
    exact qF none .dt (fun t e=>by cases e) _ (AJ cj s2)
   ·exact .inr ⟨bE,AJ cj bM⟩
theorem j7:∀(c:ay) {Q Q':e6→St→Prop} {σ:St},(∀e s,Q e s→Q' e s)→cp Γ c Q σ→cp Γ c Q' σ
 | .skip,_,_,_,a7,h=>a7 _ _ h
 | .cR ops,_,_,_,a7,h=>AH (a7 _) h
 | .kd pre w2,_,_,_,a7,h=>AJ (fun _=>AH (a7 _)) h
 | .seq a b,_,_,_,a7,h=>by
   simp only[cp]at*
   refine j7 a (fun e s aG=> ?_) h
   cases e with
   |normal=>exact j7 b a7 aG
   |exit j=>exact a7 _ _ aG
   |ret=>exact a7 _ _ aG
 | .cond c a b,_,_,σ,a7,h=>by
   simp only[cp]at*
   split at h
   ·exact⟨fun e=>j7 a a7 (h.1 e),fun e=>j7 b a7 (h.2 e)⟩
   ·exact h.elim
 | .block id a,_,_,_,a7,h=>by
   simp only[cp]at*
   refine j7 a (fun e s aG=> ?_) h
   cases e with
   |normal=>exact a7 _ _ aG
   |exit j=>
    simp only at*
    split at aG
    ·rename_i aH;rw[if_pos aH];exact a7 _ _ aG
    ·rename_i aH;rw[if_neg aH];exact a7 _ _ aG
   |ret=>exact a7 _ _ aG
 | .loop a,_,_,_,a7,h=>by
   simp only[cp,A5]at*
   obtain⟨I,eI,h0,hJ⟩:=h
   refine⟨I,eI,h0,fun s aG=>j7 a (fun e dM kJ=> ?_) (hJ s aG)⟩
   cases e with
   |normal=>exact kJ
   |exit j=>exact a7 _ _ kJ
   |ret=>exact a7 _ _ kJ
 | .exit id,_,_,_,a7,h=>a7 _ _ h
 | .ret,_,_,_,a7,h=>a7 _ _ h
def ay.cut (a b:ay):ay:= .seq a b
theorem bZ {a b:ay} {Q:e6→St→Prop} (P:St→Prop) (a9:cp Γ a (fun e s=>match e with| .normal=>P s|e=>Q e s) σ) (aw:∀s,P s→cp Γ b Q s):cp Γ (.cut a b) Q σ:=by
 show cp Γ (.seq a b) Q σ
 simp only[cp]
 refine j7 a (fun e s aG=> ?_) a9
 cases e with
 |normal=>exact aw s aG
 |exit j=>exact aG
 |ret=>exact aG
theorem Pv {a:ay} {id:Nat} {Q:e6→St→Prop} (I:St→Prop) (eI:St→Nat) (h0:I σ)
 (hJ:∀s,I s→cp Γ a (fun e dM=>match e with| .normal=>I dM∧eI dM<eI s| .exit j=>if j=id then Q .normal dM else Q (.exit j) dM| .ret=>Q .ret dM) s):cp Γ (.block id (.loop a)) Q σ:=by
 simp only[cp,A5]
 refine⟨I,eI,h0,fun s aG=>j7 a (fun e dM kJ=> ?_) (hJ s aG)⟩
 cases e<;>exact kJ
theorem fp {a:ay} {Q:e6→St→Prop} (I:St→Prop) (eI:St→Nat) (h0:I σ)
 (hJ:∀s,I s→cp Γ a (fun e dM=>match e with| .normal=>I dM∧eI dM<eI s|e=>Q e dM) s):cp Γ (.loop a) Q σ:=by
 simp only[cp,A5]
 refine⟨I,eI,h0,fun s aG=>j7 a (fun e dM kJ=> ?_) (hJ s aG)⟩
 cases e<;>exact kJ
end
end RV
