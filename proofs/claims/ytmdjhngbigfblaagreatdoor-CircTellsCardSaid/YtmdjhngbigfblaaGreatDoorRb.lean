/- Lemmas for a claim: an abstract machine for the translated code, proved sound, and contracts of functions. By an AI agent. -/
import Derived.Test.YtmdjhngbigfblaaGreatDoorRa
set_option linter.all false
namespace RV
open Go Go.RowKit
section
variable {N:Nat} {aK:dU} {aF:Mem} {R:bC} {σ σ':St} {a:Act} {w w':World} {rd:Mem} {β β':bC} {P:Program} {Γ:Env}
theorem Lx {size m cap:Nat} {A:Option Addr} {vs:List Value} (aB:vs.length=m*size) (aA:∀j x,vs[j]? =some x→∃aL,A=some aL∧w.cell? (aL.add j)=some x):
 (Builtin.firstCells size m (.slice A m cap)).run P w= .ok vs.toArray w:=by
 cases A with
 |none=>
  have:vs=[]:=by
   cases vs with
   |nil=>rfl
   |cons v vs=>obtain⟨aL,h,_⟩:=aA 0 v rfl;cases h
  subst this
  exact run_firstCells_none w size m m cap
 |some aL=>
  exact run_firstCells_some w size m aL m cap vs aB fun j x az=>by
   obtain⟨agB,h1,h2⟩:=aA j x az
   simp only[Option.some.injEq]at h1
   subst h1;exact h2
theorem z2 (h:a8 N aK aF R σ a w rd β) {v:ag} {u:Value} {d:D} {c:BC} (aC:toD σ v=some d) (ao:d.qt=some c) (hu:aP rd β v u):
 ∃A cap vs,u= .slice A c.count cap∧vs.length=c.count*c.dY∧c.wf∧bI rd c.elems vs∧(∀j x,vs[j]? =some x→∃aL,A=some aL∧w.cell? (aL.add j)=some x):=by
 have fin:∀{A:Option Addr} {cap:Nat} {b o:Nat},u= .slice A c.count cap→c.wf→c.arr=true→A=some (cellAt b o)→cD w rd b o c.elems→
  ∃A cap vs,u= .slice A c.count cap∧vs.length=c.count*c.dY∧c.wf∧bI rd c.elems vs∧(∀j x,vs[j]? =some x→∃aL,A=some aL∧w.cell? (aL.add j)=some x):=by
  intro A cap b o he hw a2 hA adq
  obtain⟨us,br,bw,c3⟩:=adq.xK
  exact⟨A,cap,us,he,by rw[bw,zC hw a2],hw,br,fun j x az=>⟨_,hA,by rw[oh];exact c3 j x az⟩⟩
 have nil:∀{A:Option Addr} {cap:Nat},u= .slice A c.count cap→c.wf→c.elems=[]→c.count*c.dY=0→
  ∃A cap vs,u= .slice A c.count cap∧vs.length=c.count*c.dY∧c.wf∧bI rd c.elems vs∧(∀j x,vs[j]? =some x→∃aL,A=some aL∧w.cell? (aL.add j)=some x):=by
  intro A cap he hw h0 h1
  exact⟨A,cap,[],he,by rw[h1];rfl,hw,by rw[h0];simp only[bI],by simp⟩
 cases v with
 |d x=>
  simp only[toD,Option.some.injEq]at aC
  subst aC
  simp only[aP]at hu
  cases x<;>simp only[D.qt,Option.some.injEq,reduceCtorEq]at ao
  case ints k xs=>
   subst ao
   simp only[bn]at hu
   obtain⟨A,cap,he,_,H⟩:=hu
   rcases H with rfl|⟨b,o,hA,H⟩
   ·exact nil he trivial rfl (by simp[BC.count])
   ·exact fin he trivial rfl hA (cD.ints.1 (H.mono h.cJ))
  case flts xs=>
   subst ao
   simp only[bn]at hu
   obtain⟨A,cap,he,_,H⟩:=hu
   rcases H with rfl|⟨b,o,hA,H⟩
   ·exact nil he trivial rfl (by simp[BC.count])
   ·exact fin he trivial rfl hA (cD.flts.1 (H.mono h.cJ))
  case recs sz xs=>
   subst ao
   simp only[bn]at hu
   obtain⟨A,cap,he,_,H⟩:=hu
   rcases H with rfl|⟨b,o,hA,H⟩
   ·exact nil he (fun _ aq=>by cases aq) rfl (by simp[BC.count])
   ·have key:∀{xs:List (List D)} {o:Nat},fc rd b sz o xs→gh w rd b sz o xs:=by
     intro xs
     induction xs with
     |nil=>intro o _;trivial
     |cons r rs cm=>
      intro o H
      simp only[fc]at H
      exact⟨H.1,cD.iff.2 (cA.EF (β:=fun _=>none) h.cJ H.2.1),cm H.2.2⟩
    obtain⟨h1,h2⟩:=cD.rows.1 (key H)
    exact fin he h1 rfl hA h2
 |own i lo n=>
  simp only[toD]at aC
  split at aC
  ·rename_i v8 ar
   simp only[aP]at hu
   obtain⟨A,cap,he,aH,H⟩:=hu
   cases fR:v8.c with
   |cells cs=>simp[fR,BC.part]at aC
   |ints k xs=>
    simp only[fR,BC.part]at aC
    split at aC
    ·simp only[Option.some.injEq]at aC;subst aC
     simp only[D.qt,Option.some.injEq]at ao;subst ao
     have rD:(BC.ints k ((xs.drop lo).take n)).count=n:=by simp[BC.count];omega
     rw[←rD]at he
     rcases H with ⟨rfl,rfl⟩|⟨r,aq,hA,_⟩
     ·exact nil he trivial (by simp[BC.elems]) (by rw[rD,Nat.zero_mul])
     ·obtain⟨cf,e1,b9,_⟩:=h.box i r aq
      rw[ar]at e1;simp only[Option.some.injEq]at e1;subst e1
      rw[fR]at b9
      have:=b9.2.2.sub (lo:=lo) n
      rw[b9.1,Nat.mul_one]at hA
      exact fin he trivial rfl hA (cD.ints.1 this)
    ·cases aC
   |flts xs=>
    simp only[fR,BC.part]at aC
    split at aC
    ·simp only[Option.some.injEq]at aC;subst aC
     simp only[D.qt,Option.some.injEq]at ao;subst ao
     have rD:(BC.flts ((xs.drop lo).take n)).count=n:=by simp[BC.count];omega
     rw[←rD]at he
     rcases H with ⟨rfl,rfl⟩|⟨r,aq,hA,_⟩
     ·exact nil he trivial (by simp[BC.elems]) (by rw[rD,Nat.zero_mul])
     ·obtain⟨cf,e1,b9,_⟩:=h.box i r aq
      rw[ar]at e1;simp only[Option.some.injEq]at e1;subst e1
      rw[fR]at b9
      have:=b9.2.2.sub (lo:=lo) n
      rw[b9.1,Nat.mul_one]at hA
      exact fin he trivial rfl hA (cD.flts.1 this)
    ·cases aC
   |recs sz xs=>
    simp only[fR,BC.part]at aC
    split at aC
    ·simp only[Option.some.injEq]at aC;subst aC
     simp only[D.qt,Option.some.injEq]at ao;subst ao
     have rD:(BC.recs sz ((xs.drop lo).take n)).count=n:=by simp[BC.count];omega
     rw[←rD]at he
     rcases H with ⟨rfl,rfl⟩|⟨r,aq,hA,_⟩
     ·exact nil he (fun _ aq=>by simp at aq) (by simp[BC.elems]) (by rw[rD,Nat.zero_mul])
     ·obtain⟨cf,e1,b9,_⟩:=h.box i r aq
      rw[ar]at e1;simp only[Option.some.injEq]at e1;subst e1
      rw[fR]at b9
      have:=b9.2.2.sub (lo:=lo) n
      rw[b9.1]at hA
      obtain⟨h1,h2⟩:=cD.rows.1 this
      exact fin he h1 rfl hA h2
    ·cases aC
  ·cases aC
 |box i off=>
  exfalso
  cases off with
  |zero=>
   simp only[toD]at aC
   split at aC
   ·split at aC
    ·simp only[Option.some.injEq]at aC;subst aC;cases ao
    ·cases aC
   ·cases aC
  |succ n=>simp[toD]at aC
 |agg cs=>
  exfalso
  simp only[toD]at aC
  split at aC
  ·simp only[Option.some.injEq]at aC;subst aC;cases ao
  ·cases aC
 |c0 f x y=>
  exfalso
  simp only[toD]at aC
  split at aC
  ·simp only[Option.some.injEq]at aC;subst aC;cases ao
  ·cases aC
 |dr i j o=>simp[toD]at aC
 |c6 l=>simp[toD]at aC
 |c1=>simp[toD]at aC
 |any=>simp[toD]at aC
theorem aa7 {c c':BC} {d:D} (h:s6 c d=some c'):∃eV,d.qt=some eV∧c.arr=true∧c'.arr=true∧eV.dY=c.dY∧c'.dY=c.dY∧c'.elems=c.elems++eV.elems∧c'.count=c.count+eV.count∧(c.wf→eV.wf→c'.wf)∧
 (eV.count=0→c'=c)∧(eV.elems.map ag.d).all ag.dq=true:=by
 unfold s6 at h
 split at h
 ·rename_i k xs dM ax
  split at h
  ·rename_i e;subst e
   simp only[Option.some.injEq]at h;subst h
   exact⟨.ints dM ax,rfl,rfl,rfl,rfl,rfl,by simp[BC.elems],by simp[BC.count],fun _ _=>trivial,fun e=>by
    have:ax=[]:=List.eq_nil_of_length_eq_zero e
    simp[this],by simp[BC.elems,ag.dq]⟩
  ·cases h
 ·rename_i xs ax
  simp only[Option.some.injEq]at h;subst h
  exact⟨.flts ax,rfl,rfl,rfl,rfl,rfl,by simp[BC.elems],by simp[BC.count],fun _ _=>trivial,fun e=>by
   have:ax=[]:=List.eq_nil_of_length_eq_zero e
   simp[this],by simp[BC.elems,ag.dq]⟩
 ·rename_i sz xs tu ax
  split at h
  ·rename_i e;obtain⟨rfl,HQ⟩:=e
   simp only[Option.some.injEq]at h;subst h
   exact⟨.recs tu ax,rfl,rfl,rfl,rfl,rfl,by simp[BC.elems],by simp[BC.count],fun h1 h2 r aq=>by
    rcases List.mem_append.1 aq with aq|aq
    ·exact h1 r aq
    ·exact h2 r aq,fun e=>by
    have:ax=[]:=List.eq_nil_of_length_eq_zero e
    simp[this],by simpa [BC.elems,sD]using HQ⟩
  ·cases h
 ·cases h
theorem abN {c:BC} (h:c.arr=true) (i:Nat):c.kill i=c:=by cases c<;>first|rfl|cases h
theorem L2 (σ:St) {i:Nat} {f e:Bool} {c:BC} (h:c.arr=true):(σ.forget i).dK i ⟨f,e,c⟩=(σ.dK i ⟨f,e,c⟩).forget i:=by
 unfold St.forget St.dK kM
 congr 1
 funext j
 by_cases az:j=i
 ·simp[az,b1.kill,abN h]
 ·simp[az]
theorem a8.forget (h:a8 N aK aF R σ a w rd β) (i:Nat):a8 N aK aF R (σ.forget i) a w rd β where
 size:=h.size
 defers:=h.defers
 cw:=h.cw
 c4:=h.c4
 cJ:=h.cJ
 dd:=h.dd
 aF:=h.aF
 dV:=fun j r b az ah bg aL a2=>by
  obtain⟨cR,h0,_⟩:=h.box j r az
  simp only[St.forget,h0,Option.map_some,Option.some.injEq]at ah
  subst ah
  exact h.dV j r cR az h0 bg aL a2
 dW:=fun t=>aP.kill (fun _ _=>rfl) (h.dW t)
 box:=fun j r az=>by
  obtain⟨cR,h0,de,eM,h1,h2⟩:=h.box j r az
  refine⟨cR.kill i,by simp[St.forget,h0],?_,eM,h1,h2⟩
  have:=de.fm (β':=β) (f:=ag.kill i) (fun x v ah=>aP.kill (fun _ _=>rfl) ah) (w':=w) (fun _ _ _=>rfl)
  rw[b1.xb]
  exact this
 dP:=fun j b ah az=>by
  cases h0:σ.aw j with
  |none=>simp[St.forget,h0]at ah
  |some cR=>
   simp only[St.forget,h0,Option.map_some,Option.some.injEq]at ah
   subst ah
   obtain⟨br,bw⟩:=h.dP j cR h0 az
   exact⟨br,by rw[←bw,b1.xb];exact uD _ cR.c⟩
 dS:=h.dS
end
end RV
namespace RV
open Go Go.RowKit
section
variable {N:Nat} {aK:dU} {aF:Mem} {R:bC} {σ σ':St} {a:Act} {w w':World} {rd rd':Mem} {β β':bC} {P:Program} {Γ:Env}
def eL (P:Program) (N:Nat) (aK:dU) (aF:Mem) (R:bC) (o:Oper) (a:Act) (w:World) (K:St→Prop):Prop:=
 ∀(next:Act→World→Prop) (Q:Exit→Act→World→Prop),(∀σ' b2 w' rd' β',K σ'→a8 N aK aF R σ' b2 w' rd' β'→next b2 w')→o.wp P a w next Q
theorem eL.value {o:Oper} {K:St→Prop} {u:Value} {v:ag} (aq:(execOp a.eval o).run P w= .ok (.value u) w') (h:a8 N aK aF R σ' a w' rd' β') (aA:aP rd' β' v u)
 (aC:gB N o.dst=true) (bV:K (σ'.put o.dst v)):eL P N aK aF R o a w K:=fun next Q aH=>by
 unfold Oper.wp
 rw[aq,Oper.upon_value]
 exact aH _ _ _ _ _ bV (h.put aC aA)
theorem eL.skip {o:Oper} {K:St→Prop} (aq:(execOp a.eval o).run P w= .ok .skip w') (h:a8 N aK aF R σ' a w' rd' β')
 (aC:gB N o.dst=true) (bV:K (σ'.put o.dst .c1)):eL P N aK aF R o a w K:=fun next Q aH=>by
 unfold Oper.wp
 rw[aq,Oper.upon_skip]
 exact aH _ _ _ _ _ bV (h.put aC (by simp only[aP]))
theorem fU.goes {o:Oper} {K:St→Prop} (aC:gB N o.dst=true) (h:fU P N aK aF R σ a w β o fun v=>K (σ.put o.dst v)):eL P N aK aF R o a w K:=by
 obtain⟨av,u,w',rd',h1,h2,al,aE⟩:=h
 exact eL.value aE h2 al aC h1
theorem ZY {ty:TypeId} {op:Op} {l:bo} (ae:dm P ty op=some l) (hm:l.makes=true):
 (∃e z,op= .alloc e∧sR P e=some z∧l= .alloc z)∨(∃e x v,op= .box e x∧kG P e x=some v∧l= .box v)∨
 (∃t n c e ek z v,op= .makeSlice t n c∧P.underlying t=some (.slice e)∧mm P e=some ek∧sR P e=some z∧dz P n=some v∧Ax n c=true∧sJ P e=true∧l= .kT ek z v)∨
 (∃ek,l= .nil ek∧(op= .assign (.const (.slice none 0 0))∨∃t e parts,op= .buildSlice t 0 parts∧P.underlying t=some (.slice e)∧mm P e=some ek∧parts.toList.isEmpty=true)):=by
 cases op with
 |alloc e=>obtain⟨z,h1,rfl⟩:=map_some ae;exact .inl ⟨e,z,rfl,h1,rfl⟩
 |box e x=>obtain⟨z,h1,rfl⟩:=map_some ae;exact .inr (.inl ⟨e,x,z,rfl,h1,rfl⟩)
 |makeSlice t n c=>
  simp only[dm,oC]at ae
  split at ae
  ·rename_i e v hu aH
   split at ae
   ·rename_i ek z jn bg
    split at ae
    ·rename_i ay
     simp only[Option.some.injEq]at ae;subst ae
     simp only[Bool.and_eq_true]at ay
     exact .inr (.inr (.inl ⟨t,n,c,e,ek,z,v,rfl,hu,jn,bg,aH,ay.1,ay.2,rfl⟩))
    ·cases ae
   ·cases ae
  ·cases ae
 |assign x=>
  simp only[dm,ng]at ae
  split at ae
  ·obtain⟨ek,h1,rfl⟩:=map_some ae
   exact .inr (.inr (.inr ⟨ek,rfl,.inl rfl⟩))
  ·obtain⟨v,h1,rfl⟩:=map_some ae
   cases hm
 |buildSlice t len parts=>
  simp only[dm,nG]at ae
  split at ae
  ·rename_i e hu
   split at ae
   ·rename_i ek jn
    split at ae
    ·split at ae
     ·rename_i aB
      split at ae
      ·rename_i aS
       simp only[Option.some.injEq]at ae;subst ae;subst aB
       exact .inr (.inr (.inr ⟨ek,rfl,.inr ⟨t,e,parts,rfl,hu,jn,aS⟩⟩))
      ·cases ae
     ·split at ae
      ·obtain⟨v,h1,rfl⟩:=map_some ae
       cases hm
      ·cases ae
    ·cases ae
   ·cases ae
  ·cases ae
 |call c=>
  exfalso
  simp only[dm,nA]at ae
  split at ae
  ·simp only[nd]at ae
   repeat' (split at ae)
   all_goals first
    |(cases ae;done)
    |(obtain⟨v,_,rfl⟩:=map_some ae;cases hm;done)
    |(simp only[Option.some.injEq]at ae;subst ae;cases hm;done)
  ·obtain⟨v,_,rfl⟩:=map_some ae;cases hm
  ·split at ae
   ·simp only[Option.some.injEq]at ae;subst ae;cases hm
   ·cases ae
  ·cases ae
 |makeFunc f x y=>
  exfalso
  cases f with
  |func f=>
   simp only[dm,nz]at ae
   split at ae
   ·simp only[Option.some.injEq]at ae;subst ae;cases hm
   ·cases ae
  |_=>cases ae
 |_=>
  exfalso
  first
   |(cases ae;done)
   |(obtain⟨v,_,rfl⟩:=map_some ae;cases hm;done)
   |(have:=Option.some.inj ae;subst this;cases hm;done)
   |(simp only[dm,nv,nw,ox,nF,nx,nm,nn,np,nq,nr,ns]at ae
     repeat' (split at ae)
     all_goals first
      |(cases ae;done)
      |(obtain⟨v,_,rfl⟩:=map_some ae;cases hm;done)
      |(simp only[Option.some.injEq]at ae;subst ae;cases hm;done))
theorem ZH {x y:Operand} (h:Ax x y=true):a.eval x=a.eval y:=by
 unfold Ax at h
 split at h
 ·simp only[beq_iff_eq]at h;subst h;rfl
 ·simp only[Bool.and_eq_true,beq_iff_eq]at h;rw[h.1,h.2]
 ·cases h
theorem LO {e:TypeId} {i:TypeInfo} {ek:dL} (hi:P.info? e=some i) (jn:mm P e=some ek):i.size=ek.sz:=by
 have:=(wG jn).1
 simpa [gk,hi]using this
theorem nc (β:bC) (i:Nat) (r:Option cY):eK β i r i=r:=if_pos rfl
theorem wQ (h:a8 N aK aF R σ a w rd β) {o:Oper} {l:bo} (ae:dm P o.type o.op=some l) (hm:l.makes=true) (aC:gB N o.dst=true) {i:Nat} {g:b1→St} {f:ag→ag} {K:St→Prop}
 (ad:made σ l (fun v b=>K ((g b).put o.dst v)) i) (dF:∀b,u6 σ (g b) i b rd β f)
 (ah:∀x,l= .box x→∀r vs,bN rd β (σ.aT x).cells vs→bN rd (eK β i r) (σ.aT x).cells vs):eL P N aK aF R o a w K:=by
 rcases ZY ae hm with ⟨e,z,bu,bg,rfl⟩|⟨e,x,v,bu,aA,rfl⟩|⟨t,n,c,e,ek,z,v,bu,hu,jn,bg,aH,sW,agC,rfl⟩|⟨ek,rfl,bu⟩
 ·obtain⟨inf,uh,hi,ye,lN⟩:=zB bg (rd:=rd)
  refine eL.value (u:= .pointer (some (cellAt w.heap.size 0))) ?_ (E4 h (dF _) (arr:=uh.cells) (e:=e) (su lN)) ?_ aC ad
  ·simp only[execOp,bu,Instr.alloc,Sem.run_bind,wY hi ye,Result.andThen_ok,newVar,newRow,run_newObj,Sem.run_pure]
   rfl
  ·simp only[aP]
   exact⟨ho w _ 1,nc _ _ _,rfl⟩
 ·simp only[made]at ad
  have aq:=Ep ad.1 (qM h aA)
  refine eL.value (u:= .pointer (some (cellAt w.heap.size 0))) ?_ (E4 h (dF _) (arr:=(a.eval x).cells) (e:=e) (ah v rfl _ _ aq)) ?_ aC ad.2
  ·simp only[execOp,bu,Instr.box,newVar,newRow,Sem.run_bind,run_newObj,Sem.run_pure,Result.andThen_ok]
   rfl
  ·simp only[aP]
   exact⟨ho w _ 1,nc _ _ _,rfl⟩
 ·simp only[made]at ad
  split at ad
  ·rename_i k m nR
   split at ad
   ·rename_i qu cT
    obtain⟨h0,Ba,ad⟩:=ad
    have rE:=ef h aH
    rw[nR]at rE
    simp only[aP,bn]at rE
    obtain⟨inf,uh,hi,ye,lN⟩:=zB bg (rd:=rd)
    have eN:=LO hi jn
    have ar:inf.bytes≤4096:=by simpa [sJ,hi]using agC
    have lO:uh.cells.size=ek.sz∨m.toNat=0:=by
     unfold ni at cT
     split at cT
     ·simp only[bI,bn]at lN
      obtain⟨_,_,dZ,_,rfl⟩:=lN
      left;rw[←Array.length_toList,dZ];rfl
     ·simp only[bI,bn]at lN
      obtain⟨_,_,dZ,_,rfl⟩:=lN
      left;rw[←Array.length_toList,dZ];rfl
     ·split at cT
      ·rename_i aB
       left;rw[←Array.length_toList,qI lN,aB];rfl
      ·cases cT
     ·cases cT
    have lO:uh.cells.size=ek.sz:=by
     rcases lO with lO|lO
     ·exact lO
     ·unfold ni at cT
      split at cT
      ·simp only[bI,bn]at lN
       obtain⟨_,_,dZ,_,rfl⟩:=lN
       rw[←Array.length_toList,dZ];rfl
      ·simp only[bI,bn]at lN
       obtain⟨_,_,dZ,_,rfl⟩:=lN
       rw[←Array.length_toList,dZ];rfl
      ·split at cT
       ·rename_i aB
        rw[←Array.length_toList,qI lN,aB];rfl
       ·cases cT
      ·cases cT
    have nI:=run_make (P:=P) w t e inf uh hu hi ye k k m m h0 (Int.le_refl _) (by
     have:(inf.bytes:Int)*m≤4096*4294967296:=by
      refine Int.mul_le_mul (by omega) Ba h0 (by omega)
     omega) (by simp only[bL]at Ba;omega)
    have hlen:(madeCells uh.cells (m.toNat*inf.size)).size=m.toNat*ek.sz:=by rw[size_madeCells,eN]
    refine eL.value (u:= .slice (some ⟨w.heap.size,0,none⟩) m.toNat m.toNat) (w':=w.alloc (.cells (madeCells uh.cells (m.toNat*inf.size)) e)) ?_ (E5 h (dF _) (sz:=ek.sz) ?_) ?_ aC ad
    ·have ct:a.eval c= .int k m:=by rw[←ZH sW];exact rE
     simp only[execOp,bu,rE,ct,Sem.run_bind,nI,Result.andThen_ok,Sem.run_pure]
    ·refine aa6 cT lN lO rfl (by simp only[ho];rw[hlen];exact Nat.le_refl _) fun j x az ah=> ?_
     show (w.alloc _).cell? (cellAt w.heap.size (0+j))=some x
     rw[Nat.zero_add,EJ]
     unfold madeCells
     exact aa5 (n:=m.toNat) (size:=inf.size) (by rw[lO,eN]) (by rw[eN];exact az) (by rw[eN];exact ah)
    ·simp only[aP]
     refine⟨_,_,rfl,Nat.le_refl _,.inr ⟨ho w _ ek.sz,nc _ _ _,by simp only[ho,Nat.zero_mul,Nat.add_zero];rfl,fun _=> ?_⟩⟩
     simp only[ho];rw[hlen];omega
   ·exact ad.elim
  ·exact ad.elim
 ·simp only[made]at ad
  rcases bu with bu|⟨t,e,parts,bu,hu,jn,aS⟩
  ·refine eL.value (u:= .slice none 0 0) (w':=w) (by simp[execOp,bu,Act.eval]) (OX h (dF _) (by cases ek<;>rfl)) ?_ aC ad
   simp only[aP]
   exact⟨none,0,rfl,Nat.le_refl _,.inl (by simp)⟩
  ·obtain⟨p3,xL⟩:=wG jn
   have nS:parts= #[]:=by
    apply Array.ext'
    simpa using aS
   have he:∀f:Nat→Value,(Array.range 0).map f= #[]:=fun f=>Array.eq_empty_of_size_eq_zero (by simp)
   have de:ey (w.alloc (.cells #[] e)) rd (eK β i (some (ho w (#[]:Array Value).size ek.sz))) (ho w (#[]:Array Value).size ek.sz) (lj ek):=by
    cases ek with
    |ints k=>exact⟨rfl,by simp,trivial⟩
    |flts=>exact⟨rfl,by simp,trivial⟩
    |recs sz=>exact⟨rfl,by simp,trivial⟩
   refine eL.value (u:= .slice (some ⟨w.heap.size,0,none⟩) 0 0) (w':=w.alloc (.cells #[] e)) ?_ (E5 h (dF _) (sz:=ek.sz) de) ?_ aC ad
   ·simp only[execOp,bu,nS,Instr.buildSlice,Sem.run_bind,fa hu,Result.andThen_ok,jE p3,Nat.zero_mul]
    rw[if_neg (by decide)]
    simp only[if_true,Sem.run_pure,Result.andThen_ok,he]
    simp[Instr.fill,newRow,run_newObj]
   ·simp only[aP]
    exact⟨_,0,rfl,Nat.le_refl _,.inl (by simp)⟩
end
end RV
namespace RV
open Go Go.RowKit
section
variable {N:Nat} {aK:dU} {aF:Mem} {R:bC} {σ σ':St} {a:Act} {w w':World} {rd rd':Mem} {β β':bC} {P:Program} {Γ:Env}
theorem abO {ty:TypeId} {op:Op} {n:Nat} {x y:bk} (ae:dm P ty op=some (.store n x y)):
 ∃t p q,op= .store t p q∧dz P p=some x∧kG P t q=some y∧gk P t=some n:=by
 cases op with
 |store t p q=>
  simp only[dm,ox]at ae
  split at ae
  ·rename_i h1 h2 al
   simp only[Option.some.injEq,bo.store.injEq]at ae
   obtain⟨rfl,rfl,rfl⟩:=ae
   exact⟨t,p,q,rfl,h1,h2,al⟩
  ·cases ae
 |call c=>
  exfalso
  simp only[dm,nA]at ae
  split at ae
  ·simp only[nd]at ae
   repeat' (split at ae)
   all_goals first
    |(cases ae;done)
    |(obtain⟨v,_,h⟩:=map_some ae;cases h;done)
  ·obtain⟨v,_,h⟩:=map_some ae;cases h
  ·split at ae
   ·cases ae
   ·cases ae
  ·cases ae
 |makeFunc f x y=>
  exfalso
  cases f with
  |func f=>
   simp only[dm,nz]at ae
   split at ae
   ·cases ae
   ·cases ae
  |_=>cases ae
 |_=>
  exfalso
  first
   |(cases ae;done)
   |(obtain⟨v,_,h⟩:=map_some ae;cases h;done)
   |(simp only[dm,ng,nv,nw,nF,nx,nm,nn,np,nq,nr,ns,oC,nG]at ae
     repeat' (split at ae)
     all_goals first
      |(cases ae;done)
      |(obtain⟨v,_,h⟩:=map_some ae;cases h;done))
theorem Mp:∀{vs:List ag} {ds:List D},lp vs=some ds→vs=ds.map .d
 |[],ds,h=>by simp only[lp,Option.some.injEq]at h;subst h;rfl
 |v::vs,ds,h=>by
  simp only[lp]at h
  split at h
  ·rename_i d mH h1 h2
   simp only[Option.some.injEq]at h;subst h
   cases v with
   |d x=>simp only[ag.xB,Option.some.injEq]at h1;subst h1;rw[Mp h2];rfl
   |_=>cases h1
  ·cases h
theorem ZZ (h:a8 N aK aF R σ a w rd β) {i:Nat} {r:cY} (hi:β i=some r) {e:Bool} {c c':BC} (ah:σ.aw i=some ⟨false,e,c⟩) {off:Nat} {vs:List ag} {us:List Value}
 (ay:lu c off vs=some c') (aq:bN rd β vs us) (h1:∀u∈us,u.oneCell'=true):
 ∃w',(storeCells (cellAt r.bS (r.off+off)) us).run P w= .ok () w'∧a8 N aK aF R (σ.dK i ⟨false,e,c'⟩) a w' rd β:=by
 cases c with
 |cells cs=>
  simp only[lu]at ay
  split at ay
  ·rename_i aB
   simp only[Option.some.injEq]at ay;subst ay
   have hlen:=qF aq
   obtain⟨b,ar,b9,_⟩:=h.box i r hi
   rw[ah]at ar;simp only[Option.some.injEq]at ar;subst ar
   obtain⟨w',br,bw,c3,gW⟩:=h.write (P:=P) hi ah (vs:=us) (p:=off) (by have:=b9.1;omega) h1
   refine⟨w',br,bw _ ⟨by have:=b9.1;simp;omega,?_⟩⟩
   refine b9.2.write aB (cA.oq aq fun j az=> ?_) (by rw[hlen]at gW;exact gW)
   rw[List.getElem?_eq_getElem az]
   exact c3 j _ (List.getElem?_eq_getElem az)
  ·cases ay
 |_=>cases ay
theorem OY {α gX:Type} {f:α→gX} {xs:List α} {j:Nat} {x:α} (az:j<xs.length):(xs.set j x).map f=(xs.map f).take j++[f x]++(xs.map f).drop (j+1):=by
 rw[List.set_eq_take_append_cons_drop,if_pos az]
 simp[List.map_take,List.map_drop]
theorem Z0 {α:Type} {sz j off:Nat} {xs:List (List α)} {ds:List α} (hw:∀r∈xs,r.length=sz) (az:j<xs.length) (bh:off+ds.length≤sz):
 (xs.set j ((xs.getD j []).take off++ds++(xs.getD j []).drop (off+ds.length))).flatten=xs.flatten.take (j*sz+off)++ds++xs.flatten.drop (j*sz+off+ds.length):=by
 have hlen:(xs.getD j []).length=sz:=by
  rw[List.getD_eq_getElem?_getD,List.getElem?_eq_getElem az]
  exact hw _ (List.getElem_mem az)
 have qW:xs=xs.take j++(xs.getD j [])::xs.drop (j+1):=by
  rw[List.getD_eq_getElem?_getD,List.getElem?_eq_getElem az]
  simp
 have p5:(xs.take j).flatten.length=j*sz:=by
  rw[zy (sz:=sz) (fun r aq=>hw r (List.mem_of_mem_take aq)),List.length_take,Nat.min_eq_left (Nat.le_of_lt az)]
 rw[List.set_eq_take_append_cons_drop,if_pos az]
 have hf:xs.flatten=(xs.take j).flatten++((xs.getD j [])++(xs.drop (j+1)).flatten):=by
  conv=>lhs;rw[qW]
  simp
 rw[hf,List.flatten_append,List.flatten_cons]
 generalize xs.getD j []=row at hlen⊢
 generalize (xs.take j).flatten=A at p5⊢
 generalize (xs.drop (j+1)).flatten=B
 rw[List.take_append,List.take_of_length_le (l:=A) (by omega),List.drop_append,List.drop_of_length_le (l:=A) (by omega),p5,
  show j*sz+off - j*sz=off by omega,show j*sz+off+ds.length - j*sz=off+ds.length by omega,List.take_append,List.drop_append]
 rw[show off - row.length=0 by omega,show off+ds.length - row.length=0 by omega]
 simp
theorem Z1 {c c':BC} {j off:Nat} {vs:List ag} (h:nj c j off vs=some c') (hw:c.wf):∃ds,vs=ds.map .d∧c.arr=true∧c'.arr=true∧c'.dY=c.dY∧c'.count=c.count∧c'.wf∧j*c.dY+off+ds.length≤c.elems.length∧
 c'.elems=c.elems.take (j*c.dY+off)++ds++c.elems.drop (j*c.dY+off+ds.length):=by
 unfold nj at h
 split at h
 ·split at h
  ·rename_i k xs dM n ao
   obtain⟨rfl,rfl,az⟩:=ao
   simp only[Option.some.injEq]at h;subst h
   exact⟨[.int dM n],rfl,rfl,rfl,rfl,by simp[BC.count],trivial,by simp[BC.dY,BC.elems];omega,by simpa [BC.elems,BC.dY]using OY (f:=D.int dM) az⟩
  ·cases h
 ·split at h
  ·rename_i xs n ao
   obtain⟨rfl,az⟩:=ao
   simp only[Option.some.injEq]at h;subst h
   exact⟨[.flt n],rfl,rfl,rfl,rfl,by simp[BC.count],trivial,by simp[BC.dY,BC.elems];omega,by simpa [BC.elems,BC.dY]using OY (f:=D.flt) az⟩
  ·cases h
 ·split at h
  ·rename_i ds fX
   split at h
   ·rename_i sz xs _ ao
    obtain⟨az,bh⟩:=ao
    simp only[Option.some.injEq]at h;subst h
    have hlen:(xs.getD j []).length=sz:=by
     rw[List.getD_eq_getElem?_getD,List.getElem?_eq_getElem az]
     exact hw _ (List.getElem_mem az)
    refine⟨ds,Mp fX,rfl,rfl,rfl,by simp[BC.count],fun r aq=> ?_,?_,Z0 hw az bh⟩
    ·rcases List.mem_or_eq_of_mem_set aq with aq|rfl
     ·exact hw r aq
     ·simp only[List.length_append,List.length_take,List.length_drop,hlen];omega
    ·simp only[BC.elems,BC.dY]
     rw[zy hw]
     have:(j+1)*sz≤xs.length*sz:=Nat.mul_le_mul_right _ az
     rw[Nat.succ_mul]at this
     omega
   ·cases h
  ·cases h
 ·cases h
theorem Z2 {t:TypeId} {n b o:Nat} {u:Value} (ay:gk P t=some n) (hu:u.cells.size=n) (aq:(storeCells (cellAt b o) u.cells.toList).run P w= .ok () w'):
 (Instr.storeAt t (.pointer (some (cellAt b o))) u).run P w= .ok () w':=by
 simp only[Instr.storeAt,Sem.run_bind,Instr.sureAddr,storeVar,jE ay,Result.andThen_ok,Sem.run_pure,hu,ne_eq,not_true_eq_false,if_false]
 simpa using aq
theorem wM (h:a8 N aK aF R σ a w rd β) {o:Oper} {n:Nat} {x y:bk} (ae:dm P o.type o.op=some (.store n x y)) (aC:gB N o.dst=true) {i:Nat} {e:Bool} {c c':BC} {K:St→Prop}
 (ah:σ.aw i=some ⟨false,e,c⟩) (aB:(σ.aT y).cells.length=n) (ay:(σ.aT y).cells.all ag.dq=true)
 (aS:(∃off,σ.aT x= .box i off∧lu c off (σ.aT y).cells=some c')∨(∃j off,σ.aT x= .dr i j off∧nj c j off (σ.aT y).cells=some c'))
 (bV:K ((σ.dK i ⟨false,e,c'⟩).put o.dst .c1)):eL P N aK aF R o a w K:=by
 obtain⟨t,p,q,bu,agD,lP,eN⟩:=abO ae
 have vD:=ef h agD
 have fp:=Ep ay (qM h lP)
 have B8:=Ad ay fp
 have agE:(a.eval q).cells.size=n:=by rw[←Array.length_toList,qF fp,aB]
 have fin:∀{b o':Nat} {w':World},a.eval p= .pointer (some (cellAt b o'))→(storeCells (cellAt b o') (a.eval q).cells.toList).run P w= .ok () w'→a8 N aK aF R (σ.dK i ⟨false,e,c'⟩) a w' rd β→eL P N aK aF R o a w K:=by
  intro b o' w' nS aq ao
  refine eL.skip (w':=w') ?_ ao aC bV
  simp only[execOp,bu,nS,Sem.run_bind,Z2 eN agE aq,Result.andThen_ok,Sem.run_pure]
 rcases aS with ⟨off,HR,er⟩|⟨j,off,HR,er⟩
 ·rw[HR]at vD
  simp only[aP]at vD
  obtain⟨r,hi,nS⟩:=vD
  obtain⟨w',h1,h2⟩:=ZZ (P:=P) h hi ah er fp B8
  exact fin nS h1 h2
 ·rw[HR]at vD
  simp only[aP]at vD
  obtain⟨r,hi,nS⟩:=vD
  obtain⟨b,ar,b9,rF⟩:=h.box i r hi
  rw[ah]at ar;simp only[Option.some.injEq]at ar;subst ar
  have a2:c.arr=true:=by
   cases c with
   |cells cs=>simp[nj]at er
   |_=>rfl
  obtain⟨cf,aY,aW,aU⟩:=(ey.elems a2).1 b9
  obtain⟨ds,a1,_,cU,cx,dx,eJ,zf,jY⟩:=Z1 er aW
  have hlen:=qF fp
  rw[a1]at fp hlen
  have Cc:=zC aW a2
  obtain⟨w',br,bw,c3,gW⟩:=h.write (P:=P) hi ah (vs:=(a.eval q).cells.toList) (p:=j*r.sz+off) (by rw[cf];simp at hlen⊢;omega) B8
  refine fin nS (by rw[Nat.add_assoc];exact br) (bw _ ((ey.elems cU).2 ⟨by rw[cf,cx],by rw[dx,cx];exact aY,eJ,?_⟩))
  rw[jY,←cf]
  refine aU.write (by rw[cf];exact zf) (cD.iff.2 (cA.oq (β:=β) fp fun aku az=> ?_)) (by simp at hlen;rw[show ds.length=(a.eval q).cells.toList.length by simp;omega];exact gW)
  rw[List.getElem?_eq_getElem az]
  exact c3 aku _ (List.getElem?_eq_getElem az)
theorem adr {ty:TypeId} {op:Op} {ek:dL} {x y:bk} (ae:dm P ty op=some (.app ek x y)):
 ∃p q t u e,op= .call { callee:= .builtin .append,args:= #[p,q],argTypes:= #[t,u] }∧lJ P t=some ek∧dz P p=some x∧dz P q=some y∧P.underlying t=some (.slice e)∧(∃e',P.underlying u=some (.slice e'))∧xD P t=true:=by
 cases op with
 |call c=>
  cases c with
  |mk callee args c2=>
   simp only[dm,nA]at ae
   split at ae
   ·rename_i _ b
    simp only[nd]at ae
    split at ae
    ·split at ae
     ·obtain⟨v,_,h⟩:=map_some ae;cases h
     ·cases ae
    ·split at ae
     ·cases ae
     ·cases ae
    ·split at ae
     ·cases ae
     ·cases ae
    ·rename_i p q t u a2 yd
     split at ae
     ·rename_i h1 h2 al
      split at ae
      ·rename_i ay
       simp only[Option.some.injEq,bo.app.injEq]at ae
       obtain⟨rfl,rfl,rfl⟩:=ae
       simp only[Bool.and_eq_true]at ay
       have mJ:args= #[p,q]:=by rw[←Array.toList_inj];exact a2
       have xN:c2= #[t,u]:=by rw[←Array.toList_inj];exact yd
       subst mJ xN
       obtain⟨e',agF⟩:=LC ay.1
       cases hu:P.underlying t with
       |none=>simp[lJ,hu]at h1
       |some K1=>
        cases K1 with
        |slice e=>exact⟨p,q,t,u,e,rfl,h1,h2,al,hu,⟨e',agF⟩,ay.2⟩
        |_=>simp[lJ,hu]at h1
      ·cases ae
     ·cases ae
    ·split at ae
     ·split at ae
      ·cases ae
      ·cases ae
     ·cases ae
    ·cases ae
   ·obtain⟨v,_,h⟩:=map_some ae;cases h
   ·split at ae
    ·cases ae
    ·cases ae
   ·cases ae
 |makeFunc f x y=>
  exfalso
  cases f with
  |func f=>
   simp only[dm,nz]at ae
   split at ae
   ·cases ae
   ·cases ae
  |_=>cases ae
 |_=>
  exfalso
  first
   |(cases ae;done)
   |(obtain⟨v,_,h⟩:=map_some ae;cases h;done)
   |(simp only[dm,ng,nv,nw,ox,nF,nx,nm,nn,np,nq,nr,ns,oC,nG]at ae
     repeat' (split at ae)
     all_goals first
      |(cases ae;done)
      |(obtain⟨v,_,h⟩:=map_some ae;cases h;done))
end
end RV
namespace RV
open Go Go.RowKit
section
variable {N:Nat} {aK:dU} {aF:Mem} {R:bC} {σ σ':St} {a:Act} {w w':World} {rd rd':Mem} {β β':bC} {P:Program} {Γ:Env}
theorem Mq {t u e e' ty:TypeId} (hu:P.underlying t=some (.slice e)) (iH:P.underlying u=some (.slice e')) {size:Nat} (ay:gk P e=some size) {A A':Option Addr} {n cap m c':Nat} {vs:List Value}
 (aA:(Builtin.firstCells size m (.slice A' m c')).run P w= .ok vs.toArray w) (aH:n+m≤cap) (hw:(match A with|some x=>storeCells (x.add (n*size)) vs|none=>pure ()).run P w= .ok () w'):
 (Builtin.append_ #[t,u] ty #[.slice A n cap,.slice A' m c']).run P w= .ok (.slice A (n+m) cap) w':=by
 cases A with
 |none=>
  simp only[Sem.run_pure,Result.ok.injEq,true_and]at hw
  subst hw
  simp[Builtin.append_,fa hu,fa iH,jE ay,Builtin.lenOf,aH,aA]
 |some x=>
  simp only at hw
  simp[Builtin.append_,fa hu,fa iH,jE ay,Builtin.lenOf,aH,aA,hw]
theorem Z3 {t u e e' ty:TypeId} (hu:P.underlying t=some (.slice e)) (iH:P.underlying u=some (.slice e')) {i:TypeInfo} {z:Value} (hi:P.info? e=some i) (bg:i.zero=some z) {A A':Option Addr} {n cap m c':Nat} {os vs:List Value}
 (bh:∀w',(∀x,w'.cell? x=w.cell? x)→(Builtin.firstCells i.size n (.slice A n cap)).run P w'= .ok os.toArray w') (aA:∀w',(∀x,w'.cell? x=w.cell? x)→(Builtin.firstCells i.size m (.slice A' m c')).run P w'= .ok vs.toArray w')
 (aH:cap<n+m) (agG:n+m≤4294967296) (ar:i.bytes≤4096):
 (Builtin.append_ #[t,u] ty #[.slice A n cap,.slice A' m c']).run P w=
  .ok (.slice (some ⟨w.heap.size,0,none⟩) (n+m) (grownCap w (n+m) cap e)) (w.drew.alloc (.cells (os.toArray++vs.toArray++Builtin.zeroCells z.cells (grownCap w (n+m) cap e - (n+m))) e)):=by
 have h1:¬(n+m≤cap):=by omega
 have aes:¬(9223372036854775807<((n:Int)+(m:Int))):=by omega
 have h2:(n+m)*i.bytes≤4294967296*4096:=Nat.mul_le_mul agG ar
 have alx:=growslice_fits (need:=n+m) (old:=cap) (bytes:=i.bytes) (by omega) (by omega)
 have aet:¬(281474976710656<Builtin.nextslicecap (n+m) cap*i.bytes):=by omega
 have hr:=bh w.drew (fun _=>rfl)
 have yf:=aA w.drew (fun _=>rfl)
 simp[Builtin.append_,fa hu,fa iH,Go.sizeOf,typeInfo,zeroValue,hi,bg,Builtin.lenOf,h1,aes,aet,Question.forced,hr,yf,newRow,grownCap]
 have az:(os++vs).toArray=os.toArray++vs.toArray:=by simp
 rw[az,Array.append_assoc]
theorem MJ {f e:Bool} {c:BC} {n:Nat} (h:jM (some ⟨f,e,c⟩)=some n):c.arr=true∧c.dY=n:=by
 cases c with
 |cells cs=>cases h
 |ints k xs=>simp only[jM,Option.some.injEq]at h;exact⟨rfl,h⟩
 |flts xs=>simp only[jM,Option.some.injEq]at h;exact⟨rfl,h⟩
 |recs sz xs=>simp only[jM,Option.some.injEq]at h;exact⟨rfl,h⟩
theorem abP {c:BC} (h:c.arr=true):∃d,c.part 0 c.count=some d∧d.qt=some c:=by
 cases c with
 |cells cs=>cases h
 |ints k xs=>exact⟨.ints k xs,by simp[BC.part,BC.count],rfl⟩
 |flts xs=>exact⟨.flts xs,by simp[BC.part,BC.count],rfl⟩
 |recs sz xs=>exact⟨.recs sz xs,by simp[BC.part,BC.count],rfl⟩
theorem MK {i:Nat} {b:b1} (h:σ.aw i=some b):σ.dK i b=σ:=by
 cases σ with
 |mk af aw=>
  unfold St.dK kM
  congr 1
  funext j
  by_cases az:j=i
  ·simp only[az,if_true];exact h.symm
  ·simp only[az,if_false]
theorem abQ (h:a8 N aK aF R σ a w rd β) {o:Oper} {ek:dL} {x y:bk} (ae:dm P o.type o.op=some (.app ek x y)) (aC:gB N o.dst=true) {i n:Nat} {c c':BC} {d:D} {K:St→Prop}
 (ah:σ.aT x= .own i 0 n) (ar:σ.aw i=some ⟨false,false,c⟩) (hy:toD σ (σ.aT y)=some d) (ao:s6 c d=some c') (eN:jM (σ.aw i)=some ek.sz) (aH:n=c.count) (Ba:c'.count≤bL)
 (bV:K (((σ.forget i).dK i ⟨false,false,c'⟩).put o.dst (.own i 0 c'.count))):eL P N aK aF R o a w K:=by
 obtain⟨p,q,t,u,e,bu,jn,aS,aZ,hu,⟨e',iH⟩,b9⟩:=adr ae
 have Bq:mm P e=some ek:=by simpa [lJ,hu]using jn
 obtain⟨p3,xL⟩:=wG Bq
 obtain⟨eV,br,bw,c3,gW,ku,sd,K2,K3,K4,HS⟩:=aa7 ao
 rw[ar]at eN
 obtain⟨_,eO⟩:=MJ eN
 have cL:=ef h aS
 have fp:=ef h aZ
 rw[ah]at cL
 obtain⟨A',vh,vs,HT,hs,Cd,vE,HU⟩:=z2 h hy br fp
 obtain⟨d0,Ce,aeu⟩:=abP bw
 obtain⟨amk,alo,os,Ga,HV,how,agH,agI⟩:=z2 h (v:= .own i 0 n) (d:=d0) (by simp only[toD,ar];rw[aH];exact Ce) aeu cL
 simp only[aP]at cL
 obtain⟨A,cap,Cf,mx,hA⟩:=cL
 rw[Cf]at Ga
 simp only[Value.slice.injEq]at Ga
 obtain⟨rfl,_,rfl⟩:=Ga
 rw[gW,eO]at hs
 rw[eO,←aH]at HV
 have u7:∀{v:Value} {w':World},(Builtin.append_ #[t,u] o.type #[.slice A n cap,.slice A' eV.count vh]).run P w= .ok v w'→(execOp a.eval o).run P w= .ok (.value v) w':=by
  intro v w' aq
  simp only[execOp,bu,resolve,invoke,builtin,Sem.run_bind,Sem.run_pure,Result.andThen_ok,List.map_toArray,List.map_cons,List.map_nil,Cf,HT,aq]
 have HW:∀w':World,(∀x,w'.cell? x=w.cell? x)→(Builtin.firstCells ek.sz eV.count (.slice A' eV.count vh)).run P w'= .ok vs.toArray w':=fun w' hw=>Lx hs fun j x az=>by
  obtain⟨aL,h1,h2⟩:=HU j x az
  exact⟨aL,h1,by rw[hw];exact h2⟩
 have agJ:∀w':World,(∀x,w'.cell? x=w.cell? x)→(Builtin.firstCells ek.sz n (.slice A n cap)).run P w'= .ok os.toArray w':=fun w' hw=>Lx HV fun j x az=>by
  obtain⟨aL,h1,h2⟩:=agI j x az
  exact⟨aL,h1,by rw[hw];exact h2⟩
 have uY:c'.count=n+eV.count:=by rw[K2,aH]
 by_cases gI:n+eV.count≤cap
 ·rcases hA with ⟨rfl,rfl⟩|⟨r,hi,hA,Cg⟩
  ·have h0:eV.count=0:=by omega
   have yg:vs=[]:=List.eq_nil_of_length_eq_zero (by rw[hs,h0,Nat.zero_mul])
   have de:=K4 h0
   subst de
   have nI:=Mq (ty:=o.type) (w':=w) hu iH p3 (A:=A) (n:=0) (cap:=0) (HW w fun _=>rfl) gI (by subst yg;cases A<;>rfl)
   rw[h0]at nI
   refine eL.value (u7 (by rw[h0];exact nI)) (σ':=(σ.forget i).dK i ⟨false,false,c'⟩) (rd':=rd) (β':=β) ?_ ?_ aC bV
   ·rw[L2 _ bw,MK ar];exact h.forget i
   ·rw[uY,h0]
    simp only[aP]
    exact⟨A,0,rfl,Nat.le_refl _,.inl (by simp)⟩
  ·obtain⟨b,cK,xO,rF,fQ,_⟩:=h.box i r hi
   rw[ar]at cK;simp only[Option.some.injEq]at cK;subst cK
   obtain⟨cf,aY,aW,aU⟩:=(ey.elems bw).1 xO
   have ads:=(fQ rfl).2
   have Cg:=Cg ads
   have Cc:=zC aW bw
   have hlen:(n+eV.count)*ek.sz≤r.len:=by
    have:(n+eV.count)*ek.sz≤cap*ek.sz:=Nat.mul_le_mul_right _ gI
    rw[cf,eO]at Cg
    omega
   have adX:∀v∈vs,v.oneCell'=true:=Ad HS (su (β:=β) vE)
   obtain⟨w',cW,dy,fM,ui⟩:=h.write (P:=P) hi ar (vs:=vs) (p:=n*ek.sz) (by rw[hs,←Nat.add_mul];exact hlen) adX
   have nI:=Mq (ty:=o.type) (w':=w') hu iH p3 (A:=A) (n:=n) (cap:=cap) (HW w fun _=>rfl) gI (by
    subst hA
    simp only[oh,Nat.zero_mul,Nat.add_zero]
    exact cW)
   refine eL.value (u7 nI) (σ':=(σ.forget i).dK i ⟨false,false,c'⟩) (rd':=rd) (β':=β) ?_ ?_ aC bV
   ·rw[L2 _ c3]
    refine(dy c' ((ey.elems c3).2 ⟨by rw[cf,ku],by rw[uY,ku,eO];exact hlen,K3 aW Cd,?_⟩)).forget i
    rw[sd,cD.append]
    have agK:c.elems.length=n*ek.sz:=by rw[Cc,eO,aH]
    refine⟨aU.mono (bT.refl _) fun k Dm YK=>ui k (by omega),?_⟩
    rw[agK]
    refine cD.oq vE fun j v az=>fM j v az
   ·rw[uY]
    simp only[aP]
    exact⟨A,cap,rfl,gI,.inr ⟨r,hi,hA,fun _=>Cg⟩⟩
 ·cases lG:P.info? e with
  |none=>simp[xD,sJ,hu,lG]at b9
  |some inf=>
   cases bg:inf.zero with
   |none=>simp[xD,sJ,hu,lG,bg]at b9
   |some z=>
    simp only[xD,sJ,hu,lG,bg,Bool.and_eq_true,decide_eq_true_eq,beq_iff_eq]at b9
    have Gb:=LO lG Bq
    have adY:n+eV.count≤4294967296:=by rw[←uY];exact Ba
    have nI:=Z3 (w:=w) (P:=P) (ty:=o.type) (A:=A) (A':=A') (n:=n) (cap:=cap) (m:=eV.count) (c':=vh) (os:=os) (vs:=vs) hu iH lG bg (by rw[Gb];exact agJ) (by rw[Gb];exact HW) (by omega) adY b9.1
    have tB:=grownCap_ge w (n+eV.count) cap e
    generalize grownCap w (n+eV.count) cap e=K5 at nI tB
    have eZ:(os.toArray++vs.toArray++Builtin.zeroCells z.cells (K5 - (n+eV.count))).size=K5*ek.sz:=by
     rw[Array.size_append,Array.size_append,size_zeroCells,List.size_toArray,List.size_toArray,HV,hs,b9.2,Gb,←Nat.add_mul,←Nat.add_mul]
     congr 1;omega
    refine eL.value (u7 nI) (E5 (h.drew) (i:=i) (c:=c') (sz:=ek.sz) (pn σ i _) ?_) ?_ aC bV
    ·refine(ey.elems c3).2 ⟨by rw[ku,eO];rfl,?_,K3 how Cd,?_⟩
     ·rw[uY,ku,eO]
      show _≤(os.toArray++vs.toArray++Builtin.zeroCells z.cells (K5 - (n+eV.count))).size
      rw[eZ]
      exact Nat.mul_le_mul_right _ tB
     ·rw[sd]
      refine cD.oq (uy agH vE) fun j v az=> ?_
      show (w.drew.alloc _).cell? (cellAt w.drew.heap.size (0+j))=some v
      rw[Nat.zero_add,EJ,←Array.getElem?_toList]
      simp only[Array.toList_append,List.append_assoc]
      rw[←List.append_assoc,List.getElem?_append_left]
      ·exact az
      ·exact(List.getElem?_eq_some_iff.1 az).1
    ·rw[uY]
     simp only[aP]
     refine⟨_,_,rfl,tB,.inr ⟨ho w.drew _ ek.sz,nc _ _ _,by simp only[ho,Nat.zero_mul,Nat.add_zero];rfl,fun _=> ?_⟩⟩
     simp only[ho]
     rw[eZ];omega
end
end RV
namespace RV
open Go Go.RowKit
def ht (regs:List (Option cY)):bC:=fun i=>if bF≤i then (regs[i - bF]?).join else none
def Ch (P:Program) (B:Mem) (f:Nat) (C:fL):Prop:=
 sT P f∧∀(as:List ag) (cs:List BC),C.pre as cs→∀(w:World) (rd:Mem) (regs:List (Option cY)) (vs:Array Value),regs.length=cs.length→bT B rd→bT rd w.cell?→bN rd (ht regs) as vs.toList→
  (∀(k:Nat) (c:BC) (r:cY),cs[k]? =some c→regs[k]? =some (some r)→ey w rd (ht regs) r c∧kN w r∧r.whole=false∧∀aL,r.has aL→rd aL=none)→
  (∀(k:Nat) (c:BC),cs[k]? =some c→regs[k]? =some none→c.isNil=true)→
  (∀j k ha kt,j≠k→ht regs j=some ha→ht regs k=some kt→∀aL,ha.has aL→¬kt.has aL)→
  Calls P f vs w fun e w'=>∃v rd',e= .returned v∧hl (ht regs) w w'∧bT rd rd'∧bT rd' w'.cell?∧(∀aL v,rd' aL=some v→aL.block<w.heap.size→rd aL=some v)∧bn rd' (C.res as cs) v∧
   (∀(k:Nat) (c:BC) (r:cY),(C.out as cs)[k]? =some c→regs[k]? =some (some r)→ey w' rd' (ht regs) r c)∧(∀(k:Nat) (c:BC),(C.out as cs)[k]? =some c→regs[k]? =some none→c.isNil=true)
def aO (P:Program) (B:Mem) (Γ:Env):Prop:=P1 P B Γ∧∀f C,Γ.mt f=some C→Ch P B f C
theorem aO.mono {P:Program} {B YL:Mem} {Γ:Env} (aN:bT B YL) (h:aO P B Γ):aO P YL Γ:=
 ⟨fun f C e=>⟨(h.1 f C e).1,fun ds aS w rd vs ar=>(h.1 f C e).2 ds aS w rd vs (aN.trans ar)⟩,
  fun f C e=>⟨(h.2 f C e).1,fun as cs aS w rd regs vs aB ar=>(h.2 f C e).2 as cs aS w rd regs vs aB (aN.trans ar)⟩⟩
theorem Ae {regs:List (Option cY)} {i:Nat} {r:cY} (h:ht regs i=some r):∃k,i=bF+k∧regs[k]? =some (some r):=by
 unfold ht at h
 split at h
 ·rename_i hi
  refine⟨i - bF,by omega,?_⟩
  cases e:regs[i - bF]? with
  |none=>rw[e]at h;cases h
  |some x=>rw[e]at h;simp only[Option.join_some]at h;rw[h]
 ·cases h
theorem xr {regs:List (Option cY)} {k:Nat} {x:Option cY} (h:regs[k]? =some x):ht regs (bF+k)=x:=by
 unfold ht
 rw[if_pos (by omega),show bF+k - bF=k by omega,h]
 rfl
section
variable {N:Nat} {aK:dU} {aF:Mem} {R:bC} {σ σ':St} {a:Act} {w w':World} {rd rd':Mem} {β β':bC} {P:Program} {Γ:Env}
def FT (g:Nat→Nat) (β β':bC) (i:Nat):Prop:=∀r,β i=some r→∃r',β' (g i)=some r'∧r'.bS=r.bS∧r'.off=r.off∧r'.sz=r.sz∧r'.whole=false
mutual
theorem OZ {g:Nat→Nat} :∀(v:ag) (u:Value),(∀i,v.has i=true→FT g β β' i)→aP rd β v u→aP rd β' (v.c7 g) u
 | .d x,u,_,H=>by simpa only[ag.c7,aP]using H
 | .agg cs,u,dZ,H=>by
   simp only[ag.c7,aP]at*
   obtain⟨vs,e,H⟩:=H
   exact⟨vs,e,w0 cs _ (fun i hi=>dZ i (by simpa only[ag.has]using hi)) H⟩
 | .box i o,u,dZ,H=>by
   simp only[ag.c7,aP]at*
   obtain⟨r,h1,h2⟩:=H
   obtain⟨r',br,bw,c3,_⟩:=dZ i (by simp[ag.has]) r h1
   exact⟨r',br,by rw[bw,c3];exact h2⟩
 | .own i lo n,u,dZ,H=>by
   simp only[ag.c7,aP]at*
   obtain⟨A,cap,h1,h2,al⟩:=H
   refine⟨A,cap,h1,h2,al.imp id fun⟨r,ea,ft,_⟩=> ?_⟩
   obtain⟨r',br,bw,c3,gW,ku⟩:=dZ i (by simp[ag.has]) r ea
   exact⟨r',br,by rw[bw,c3,gW];exact ft,fun e=>by rw[ku]at e;cases e⟩
 | .dr i j o,u,dZ,H=>by
   simp only[ag.c7,aP]at*
   obtain⟨r,h1,h2⟩:=H
   obtain⟨r',br,bw,c3,gW,_⟩:=dZ i (by simp[ag.has]) r h1
   exact⟨r',br,by rw[bw,c3,gW];exact h2⟩
 | .c0 f x y,u,dZ,H=>by
   simp only[ag.c7,aP]at*
   obtain⟨e8,vc,e,H1,et⟩:=H
   exact⟨e8,vc,e,w0 x _ (fun i hi=>dZ i (by simp[ag.has,hi])) H1,w0 y _ (fun i hi=>dZ i (by simp[ag.has,hi])) et⟩
 | .c6 _,u,_,H=>by simpa only[ag.c7,aP]using H
 | .c1,u,_,H=>by simpa only[ag.c7,aP]using H
 | .any,u,_,_=>by simp only[ag.c7,aP]
theorem w0 {g:Nat→Nat} :∀(vs:List ag) (us:List Value),(∀i,ag.cC i vs=true→FT g β β' i)→bN rd β vs us→bN rd β' (ag.e5 g vs) us
 |[],us,_,H=>by simpa only[ag.e5,bN]using H
 |v::vs,us,dZ,H=>by
  simp only[ag.e5,bN]at*
  obtain⟨u,ki,e,h1,h2⟩:=H
  exact⟨u,ki,e,OZ v u (fun i hi=>dZ i (by simp[ag.cC,hi])) h1,w0 vs ki (fun i hi=>dZ i (by simp[ag.cC,hi])) h2⟩
end
mutual
theorem O0:∀(v:ag) (i:Nat),v.has i=true→i∈v.ids
 | .d _,_,h=>by simp[ag.has]at h
 | .agg cs,i,h=>by simpa only[ag.ids]using sF cs i (by simpa only[ag.has]using h)
 | .box j o,i,h=>by simp only[ag.has,beq_iff_eq]at h;simp[ag.ids,h]
 | .own j o n,i,h=>by simp only[ag.has,beq_iff_eq]at h;simp[ag.ids,h]
 | .dr j o n,i,h=>by simp only[ag.has,beq_iff_eq]at h;simp[ag.ids,h]
 | .c0 f x y,i,h=>by
   simp only[ag.has,Bool.or_eq_true]at h
   simp only[ag.ids,List.mem_append]
   exact h.imp (sF x i) (sF y i)
 | .c6 _,_,h=>by simp[ag.has]at h
 | .c1,_,h=>by simp[ag.has]at h
 | .any,_,h=>by simp[ag.has]at h
theorem sF:∀(vs:List ag) (i:Nat),ag.cC i vs=true→i∈ag.gE vs
 |[],_,h=>by simp[ag.cC]at h
 |v::vs,i,h=>by
  simp only[ag.cC,Bool.or_eq_true]at h
  simp only[ag.gE,List.mem_append]
  exact h.imp (O0 v i) (sF vs i)
end
theorem wE:∀{l:List Nat} {i:Nat},i∈l→i∈distinct l
 |j::r,i,h=>by
  simp only[distinct,List.mem_cons,List.mem_filter]
  by_cases e:i=j
  ·exact .inl e
  ·rcases List.mem_cons.1 h with h|h
   ·exact absurd h e
   ·exact .inr ⟨wE h,by simpa using e⟩
theorem DL:∀(l:List Nat),(distinct l).Nodup
 |[]=>List.nodup_nil
 |i::r=>by
  simp only[distinct]
  refine List.nodup_cons.2 ⟨by simp,(DL r).filter _⟩
theorem DY:∀{l:List Nat} {i:Nat},i∈l→l[placeOf l i]? =some i
 |j::r,i,h=>by
  simp only[placeOf]
  split
  ·rename_i e;subst e;rfl
  ·rename_i e
   rcases List.mem_cons.1 h with h|h
   ·exact absurd h.symm e
   ·simpa using DY h
theorem zz {p:Nat→Bool} :∀{is:List Nat} {cs:List BC},contents σ p is=some cs→cs.length=is.length∧(∀c∈cs,c.tidy p=true)∧∀(k i:Nat),is[k]? =some i→∃e c,σ.aw i=some ⟨false,e,c⟩∧cs[k]? =some c
 |[],cs,h=>by simp only[contents,Option.some.injEq]at h;subst h;simp
 |i::r,cs,h=>by
  simp only[contents]at h
  split at h
  ·rename_i e c cs' ar ao
   split at h
   ·rename_i aS
    simp only[Option.some.injEq]at h;subst h
    obtain⟨h1,h2,al⟩:=zz ao
    refine⟨by simp[h1],?_,fun k j az=> ?_⟩
    ·intro c' ct
     rcases List.mem_cons.1 ct with rfl|ct
     ·exact aS
     ·exact h2 c' ct
    ·cases k with
     |zero=>simp only[List.getElem?_cons_zero,Option.some.injEq]at az;subst az;exact⟨e,c,ar,rfl⟩
     |succ k=>simpa using al k j (by simpa using az)
   ·cases h
  ·cases h
mutual
theorem Nu {p:Nat→Bool} :∀(v:ag),v.tidy p=true→∀i,v.has i=true→p i=true
 | .d _,_,_,h=>by simp[ag.has]at h
 | .agg cs,ae,i,h=>z3 cs (by simpa only[ag.tidy]using ae) i (by simpa only[ag.has]using h)
 | .box j o,ae,i,h=>by
   simp only[ag.has,beq_iff_eq]at h;subst h
   simpa only[ag.tidy]using ae
 | .own _ _ _,ae,_,_=>by simp[ag.tidy]at ae
 | .dr _ _ _,ae,_,_=>by simp[ag.tidy]at ae
 | .c0 f x y,ae,i,h=>by
   simp only[ag.tidy,Bool.and_eq_true]at ae
   simp only[ag.has,Bool.or_eq_true]at h
   rcases h with h|h
   ·exact z3 x ae.1 i h
   ·exact z3 y ae.2 i h
 | .c6 _,_,_,h=>by simp[ag.has]at h
 | .c1,_,_,h=>by simp[ag.has]at h
 | .any,_,_,h=>by simp[ag.has]at h
theorem z3 {p:Nat→Bool} :∀(vs:List ag),ag.fT p vs=true→∀i,ag.cC i vs=true→p i=true
 |[],_,_,h=>by simp[ag.cC]at h
 |v::vs,ae,i,h=>by
  simp only[ag.fT,Bool.and_eq_true]at ae
  simp only[ag.cC,Bool.or_eq_true]at h
  rcases h with h|h
  ·exact Nu v ae.1 i h
  ·exact z3 vs ae.2 i h
end
def vi (g:Nat→Nat) (β β':bC) (i:Nat):Prop:=∀r,β i=some r→∃r',β' (g i)=some r'∧r'.bS=r.bS∧r'.off=r.off
mutual
theorem Nv {g:Nat→Nat} {p:Nat→Bool} (bb:∀i,p i=true→vi g β β' i):∀(v:ag) (u:Value),v.tidy p=true→aP rd β v u→aP rd β' (v.c7 g) u
 | .d x,u,_,H=>by simpa only[ag.c7,aP]using H
 | .agg cs,u,ae,H=>by
   simp only[ag.c7,aP]at*
   obtain⟨vs,e,H⟩:=H
   exact⟨vs,e,z4 bb cs _ (by simpa only[ag.tidy]using ae) H⟩
 | .box i o,u,ae,H=>by
   simp only[ag.c7,aP]at*
   obtain⟨r,h1,h2⟩:=H
   obtain⟨r',br,bw,c3⟩:=bb i (by simpa only[ag.tidy]using ae) r h1
   exact⟨r',br,by rw[bw,c3];exact h2⟩
 | .own _ _ _,_,ae,_=>by simp[ag.tidy]at ae
 | .dr _ _ _,_,ae,_=>by simp[ag.tidy]at ae
 | .c0 f x y,u,ae,H=>by
   simp only[ag.tidy,Bool.and_eq_true]at ae
   simp only[ag.c7,aP]at*
   obtain⟨e8,vc,e,H1,et⟩:=H
   exact⟨e8,vc,e,z4 bb x _ ae.1 H1,z4 bb y _ ae.2 et⟩
 | .c6 _,u,_,H=>by simpa only[ag.c7,aP]using H
 | .c1,u,_,H=>by simpa only[ag.c7,aP]using H
 | .any,u,_,_=>by simp only[ag.c7,aP]
theorem z4 {g:Nat→Nat} {p:Nat→Bool} (bb:∀i,p i=true→vi g β β' i):∀(vs:List ag) (us:List Value),ag.fT p vs=true→bN rd β vs us→bN rd β' (ag.e5 g vs) us
 |[],us,_,H=>by simpa only[ag.e5,bN]using H
 |v::vs,us,ae,H=>by
  simp only[ag.fT,Bool.and_eq_true]at ae
  simp only[ag.e5,bN]at*
  obtain⟨u,ki,e,h1,h2⟩:=H
  exact⟨u,ki,e,Nv bb v u ae.1 h1,z4 bb vs ki ae.2 h2⟩
end
theorem L3 (g:Nat→Nat):∀(vs:List ag),(ag.e5 g vs).length=vs.length
 |[]=>rfl
 |v::vs=>by simp[ag.e5,L3 g vs]
theorem Mr {g:Nat→Nat} {p:Nat→Bool} (bb:∀i,p i=true→vi g β β' i) {b:Nat} :∀(cs:List ag) (o:Nat),ag.fT p cs=true→cA w rd β b o cs→cA w rd β' b o (ag.e5 g cs)
 |[],_,_,_=>trivial
 |v::vs,o,ae,⟨⟨u,e,H⟩,et⟩=>by
  simp only[ag.fT,Bool.and_eq_true]at ae
  exact⟨⟨u,e,Nv bb v u ae.1 H⟩,Mr bb vs (o+1) ae.2 et⟩
theorem ML {g:Nat→Nat} {p:Nat→Bool} (bb:∀i,p i=true→vi g β β' i) {r r':cY} {c:BC} (aS:c.tidy p=true) (ar:r'.bS=r.bS) (bh:r'.off=r.off) (aB:r'.len=r.len) (ay:r'.sz=r.sz) (h:ey w rd β r c):ey w rd β' r' (c.c7 g):=by
 cases r with|mk b o l s aml=>
 cases r' with|mk fD o' o4 df aly=>
 simp only at ar bh aB ay
 subst ar bh aB ay
 cases c with
 |cells cs=>exact⟨by rw[L3];exact h.1,Mr bb cs _ aS h.2⟩
 |ints k xs=>exact h
 |flts xs=>exact h
 |recs sz xs=>exact h
theorem MM (g:Nat→Nat) (c:BC):(c.c7 g).isNil=c.isNil:=by cases c<;>rfl
theorem DZ:∀{is:List Nat} {cs:List BC} {σ:St},is.Nodup→cs.length=is.length→(gg σ is cs).af=σ.af∧(∀j,j∉is→(gg σ is cs).aw j=σ.aw j)∧
 ∀(k i:Nat) c b,is[k]? =some i→cs[k]? =some c→σ.aw i=some b→(gg σ is cs).aw i=some ⟨b.cd,b.ext,c⟩
 |[],cs,σ,_,_=>by cases cs<;>simp[gg]
 |i::r,[],σ,_,h=>by simp at h
 |i::r,c::cs,σ,aH,aB=>by
  obtain⟨hi,aq⟩:=List.nodup_cons.1 aH
  have Cb:cs.length=r.length:=by simpa using aB
  simp only[gg]
  cases ar:σ.aw i with
  |none=>
   obtain⟨h1,h2,al⟩:=DZ (σ:=σ) aq Cb
   refine⟨h1,fun j az=>h2 j (fun h=>az (by simp[h])),fun k j c' b ad ao cK=> ?_⟩
   cases k with
   |zero=>simp only[List.getElem?_cons_zero,Option.some.injEq]at ad;subst ad;rw[ar]at cK;cases cK
   |succ k=>exact al k j c' b (by simpa using ad) (by simpa using ao) cK
  |some v8=>
   simp only
   obtain⟨h1,h2,al⟩:=DZ (σ:=σ.dK i ⟨v8.cd,v8.ext,c⟩) aq Cb
   refine⟨h1,fun j az=> ?_,fun k j c' b ad ao cK=> ?_⟩
   ·rw[h2 j (fun h=>az (by simp[h]))]
    simp only[St.dK,kM]
    rw[if_neg (fun h=>az (by simp[h]))]
   ·cases k with
    |zero=>
     simp only[List.getElem?_cons_zero,Option.some.injEq]at ad ao
     subst ad ao
     rw[h2 _ hi,ar]at*
     simp only[Option.some.injEq]at cK;subst cK
     simp[St.dK,kM]
    |succ k=>
     have bY:r[k]? =some j:=by simpa using ad
     have eG:j≠i:=fun e=>hi (e▸List.mem_of_getElem? bY)
     exact al k j c' b bY (by simpa using ao) (by simp only[St.dK,kM];rw[if_neg eG];exact cK)
end
end RV
namespace RV
open Go Go.RowKit
def cY.part (r:cY):cY:= { r with whole:=false }
theorem cY.sG {r:cY} {aL:Addr} (h:r.part.has aL):r.has aL:=by
 refine⟨h.1,.inr ?_⟩
 rcases h.2 with h|h
 ·cases h
 ·exact h
section
variable {N:Nat} {aK:dU} {aF:Mem} {R E:bC} {σ σ':St} {a:Act} {w w':World} {rd rd':Mem} {β β':bC} {P:Program} {Γ:Env}
theorem aa8 (ad:hl E w w') {b o:Nat} (ar:b<w.heap.size) (fH:∀j r,E j=some r→¬r.has (cellAt b o)):w'.cell? (cellAt b o)=w.cell? (cellAt b o):=by
 rcases ad.block b ar with e|⟨c,t,cd,c',h1,h2,al,aE⟩
 ·exact na e
 ·simp only[World.cell?,cellAt,h1,h2]
  simpa using aE o fH
theorem aa9 {r:cY} (aS:kN w r) (ad:hl E w w'):kN w' r:=by
 have bp:=aS.lt
 obtain⟨arr,e,cd,h0,h1,h2,al⟩:=aS
 rcases ad.block r.bS bp with e'|⟨c,t,agu,c',br,bw,c3,_⟩
 ·exact⟨arr,e,cd,e'.trans h0,h1,h2,al⟩
 ·rw[h0]at br
  simp only[Option.some.injEq,Obj.cells.injEq]at br
  obtain⟨rfl,rfl,rfl⟩:=br
  exact⟨c',e,cd,bw,by rw[c3];exact h1,h2,fun hw=>⟨(al hw).1,by rw[c3];exact(al hw).2.1,(al hw).2.2⟩⟩
def jc (β:bC) (is:List Nat):List (Option cY):=is.map fun i=>(β i).map cY.part
theorem zI {is:List Nat} {j:Nat} {r':cY} (h:ht (jc β is) j=some r'):∃(k i:Nat) (r:cY),j=bF+k∧is[k]? =some i∧β i=some r∧r'=r.part:=by
 obtain⟨k,rfl,ad⟩:=Ae h
 simp only[jc,List.getElem?_map]at ad
 cases hi:is[k]? with
 |none=>rw[hi]at ad;cases ad
 |some i=>
  rw[hi]at ad
  simp only[Option.map_some,Option.some.injEq]at ad
  cases aq:β i with
  |none=>rw[aq]at ad;cases ad
  |some r=>rw[aq]at ad;simp only[Option.map_some,Option.some.injEq]at ad;exact⟨k,i,r,rfl,hi,aq,ad.symm⟩
theorem acC {is:List Nat} {i:Nat} (h:i∈is):∃k:Nat,is[k]? =some i:=by
 obtain⟨k,ad,e⟩:=List.mem_iff_getElem.1 h
 exact⟨k,by rw[List.getElem?_eq_getElem ad,e]⟩
theorem aar (h:a8 N aK aF R σ a w rd β) {is:List Nat} (aH:is.Nodup) {cs cs':List BC} {q:Nat→Bool} (eO:contents σ q is=some cs) (aB:cs'.length=cs.length)
 (ad:hl (ht (jc β is)) w w') (hle:bT rd rd') (hw:bT rd' w'.cell?) (hold:∀aL v,rd' aL=some v→aL.block<w.heap.size→rd aL=some v)
 (agL:∀(k i:Nat) (c:BC) (r:cY),cs'[k]? =some c→is[k]? =some i→β i=some r→ey w' rd' β r c) (agM:∀(k:Nat) (c:BC),cs'[k]? =some c→(jc β is)[k]? =some none→c.isNil=true):
 a8 N aK aF R (gg σ is cs') a w' rd' β:=by
 obtain⟨bB,cu,eU⟩:=zz eO
 obtain⟨s1,s2,kv⟩:=DZ (σ:=σ) aH (aB.trans bB)
 have Bb:∀{i:Nat},i∈is→∃(k:Nat) (e:Bool) (c c':BC),is[k]? =some i∧σ.aw i=some ⟨false,e,c⟩∧cs'[k]? =some c'∧(gg σ is cs').aw i=some ⟨false,e,c'⟩:=by
  intro i hi
  obtain⟨k,bY⟩:=acC hi
  obtain⟨e,c,ar,ao⟩:=eU k i bY
  have bp:k<cs'.length:=by rw[aB];exact(List.getElem?_eq_some_iff.1 ao).1
  exact⟨k,e,c,cs'[k],bY,ar,List.getElem?_eq_getElem bp,kv k i _ _ bY (List.getElem?_eq_getElem bp) ar⟩
 have Fz:∀{aL:Addr} {j:Nat} {r':cY},ht (jc β is) j=some r'→r'.has aL→∃i r,i∈is∧β i=some r∧r.has aL:=by
  intro aL j r' az dJ
  obtain⟨k,i,r,_,hi,aq,rfl⟩:=zI az
  exact⟨i,r,List.mem_of_getElem? hi,aq,cY.sG dJ⟩
 exact {
  size:=h.size
  defers:=h.defers
  cw:=by
   refine⟨ad.os.trans h.cw.os,ad.tape.trans h.cw.tape,ad.output.trans h.cw.output,Nat.le_trans h.cw.size ad.size,fun b ar=>(h.cw.block b ar).trans ?_⟩
   rcases ad.block b (Nat.lt_of_lt_of_le ar h.cw.size)with e|⟨c,t,cd,c',h1,h2,al,aE⟩
   ·exact .inl e
   ·refine .inr ⟨c,t,cd,c',h1,h2,al,fun o fH=>aE o fun j r' az dJ=> ?_⟩
    obtain⟨i,r,hi,aq,eI⟩:=Fz az dJ
    obtain⟨k,e,eW,alz,_,gQ,_,_⟩:=Bb hi
    obtain⟨v8,tC,_,_,fQ,eH⟩:=h.box i r aq
    rw[gQ]at tC;simp only[Option.some.injEq]at tC;subst tC
    cases e with
    |false=>have:=(fQ rfl).1;have:=eI.1;simp only[cellAt]at this;omega
    |true=>exact fH i r (eH rfl).1 eI
  c4:=fun b o ar=>by
   obtain⟨br,bw⟩:=h.c4 b o ar
   have bp:=(Array.getElem?_eq_some_iff.1 bw).1
   refine⟨br.to (fun aL v e ad=> .inl (hold aL v e (by omega))) (fun i r hi e=>⟨i,r,hi,e⟩),?_⟩
   rcases ad.block b bp with e|⟨c,t,cd,c',h1,h2,al,aE⟩
   ·rw[e];exact bw
   ·rw[bw]at h1
    rcases br with br|⟨br,_⟩
    ·exact absurd (Option.some.inj h1) (br _ _ _)
    ·have e:c'=c:=Array.ext_getElem? fun o=>aE o fun j r' az dJ=>by
      obtain⟨i,r,hi,aq,eI⟩:=Fz az dJ
      exact br i r aq eI.1.symm
     rw[h2,e,←h1]
  cJ:=hw
  dd:=h.dd.trans hle
  aF:=fun aL v e bp=>h.aF aL v (hold aL v e (Nat.lt_of_lt_of_le bp h.cw.size)) bp
  dV:=fun i r b hi ar bg aL eI=>by
   obtain⟨cR,gR,_,aS,_⟩:=h.box i r hi
   have tA:cR.cd=false:=by
    by_cases p6:i∈is
    ·obtain⟨k,e,c,c',_,gQ,_,cK⟩:=Bb p6
     rw[gQ]at gR;simp only[Option.some.injEq]at gR;subst gR;rfl
    ·rw[s2 i p6,gR]at ar
     simp only[Option.some.injEq]at ar;subst ar;exact bg
   cases e:rd' aL with
   |none=>rfl
   |some v=>
    have:=hold aL v e (by rw[eI.1];exact aS.lt)
    rw[h.dV i r cR hi gR tA aL eI]at this
    cases this
  dW:=fun t=>by rw[s1];exact aP.mono hle _ _ (h.dW t)
  box:=fun i r hi=>by
   obtain⟨cR,gR,b9,aS,fQ,eH⟩:=h.box i r hi
   have mK:=aa9 aS ad
   by_cases p6:i∈is
   ·obtain⟨k,e,c,c',kl,gQ,ct,cK⟩:=Bb p6
    rw[gQ]at gR;simp only[Option.some.injEq]at gR;subst gR
    exact⟨⟨false,e,c'⟩,cK,agL k i c' r ct kl hi,mK,fQ,eH⟩
   ·refine⟨cR,by rw[s2 i p6];exact gR,?_,mK,fQ,eH⟩
    refine b9.mono hle (fun o h1 h2=>aa8 ad aS.lt fun j r' az dJ=> ?_) (fun cs _ v _ u H=>aP.mono hle v u H)
    obtain⟨jX,bP,hi',kU,eI⟩:=Fz az dJ
    exact h.dS i jX r bP (fun e=>p6 (e▸hi')) hi kU _ ⟨rfl,.inr ⟨h1,h2⟩⟩ eI
  dP:=fun i b ar hi=>by
   by_cases p6:i∈is
   ·obtain⟨k,e,c,c',kl,gQ,ct,cK⟩:=Bb p6
    rw[cK]at ar
    simp only[Option.some.injEq]at ar;subst ar
    have iE:(jc β is)[k]? =some none:=by simp[jc,kl,hi]
    exact⟨(h.dP i _ gQ hi).1,agM k c' ct iE⟩
   ·rw[s2 i p6]at ar
    exact h.dP i b ar hi
  dS:=h.dS }
theorem D9 {f:Nat} {C:fL} (b9:Ch P aF f C) (h:a8 N aK aF R σ a w rd β) {o:Oper} (aC:gB N o.dst=true) {vs:List ag} {us:Array Value} (hu:bN rd β vs us.toList)
 (aq:(execOp a.eval o).run P w= .ok (.enter f us) w) {K:St→Prop} {is:List Nat} (hnd:is.Nodup) (vj:∀i,ag.cC i vs=true→i∈is) (ad:ow C o.dst σ K vs is):∀(next:Act→World→Prop) (Q:Exit→Act→World→Prop),(∀σ' b2 w' rd' β',K σ'→a8 N aK aF R σ' b2 w' rd' β'→next b2 w')→o.wp P a w next Q:=by
 intro next Q aH
 unfold ow at ad
 split at ad
 ·rename_i cs eO
  simp only at ad
  obtain⟨aS,hlen,iJ,ad⟩:=ad
  obtain⟨bB,cu,eU⟩:=zz eO
  have adZ:∀i,is.contains i=true→vi (fun i=>bF+placeOf is i) β (ht (jc β is)) i:=by
   intro i hi r tD
   have rv:=DY (l:=is) (i:=i) (by simpa using hi)
   exact⟨r.part,xr (by simp[jc,rv,tD]),rfl,rfl⟩
  have adt:∀i,ag.cC i vs=true→FT (fun i=>bF+placeOf is i) β (ht (jc β is)) i:=by
   intro i hi r tD
   have rv:=DY (vj i hi)
   exact⟨r.part,xr (by simp[jc,rv,tD]),rfl,rfl,rfl,rfl⟩
  have ad0:∀i,pH is.length i=true→vi (fun i=>is.getD (i - bF) 0) (ht (jc β is)) β i:=by
   intro i hi r' tD
   obtain⟨k,jX,r,rfl,bY,dJ,rfl⟩:=zI tD
   refine⟨r,?_,rfl,rfl⟩
   show β (is.getD (bF+k - bF) 0)=some r
   rw[show bF+k - bF=k by omega,List.getD_eq_getElem?_getD,bY]
   exact dJ
  have gF:=w0 vs us.toList adt hu
  unfold Oper.wp
  rw[aq,Oper.upon_enter]
  refine(b9.2 _ _ aS w rd (jc β is) us (by simp[jc,bB]) h.dd h.cJ gF ?_ ?_ ?_).mono ?_
  ·intro k c r ao iE
   simp only[List.getElem?_map]at ao
   cases de:cs[k]? with
   |none=>rw[de]at ao;cases ao
   |some eW=>
    rw[de]at ao
    simp only[Option.map_some,Option.some.injEq]at ao
    subst ao
    have bp:k<is.length:=by rw[←bB];exact(List.getElem?_eq_some_iff.1 de).1
    obtain⟨e,c',ar,ct⟩:=eU k is[k] (List.getElem?_eq_getElem bp)
    rw[de]at ct;simp only[Option.some.injEq]at ct;subst ct
    simp only[jc,List.getElem?_map,List.getElem?_eq_getElem bp,Option.map_some,Option.some.injEq]at iE
    cases cK:β is[k]with
    |none=>rw[cK]at iE;cases iE
    |some l5=>
     rw[cK]at iE
     simp only[Option.map_some,Option.some.injEq]at iE
     subst iE
     obtain⟨v8,tC,xO,rF,_⟩:=h.box _ l5 cK
     rw[ar]at tC;simp only[Option.some.injEq]at tC;subst tC
     refine⟨ML adZ (cu eW (List.mem_of_getElem? de)) rfl rfl rfl rfl xO,?_,rfl,fun aL eI=>h.dV _ l5 _ cK ar rfl aL (cY.sG eI)⟩
     obtain⟨arr,t,cd,ea,ft,fY,_⟩:=rF
     exact⟨arr,t,cd,ea,ft,fY,fun e=>by cases e⟩
  ·intro k c ao iE
   simp only[List.getElem?_map]at ao
   cases de:cs[k]? with
   |none=>rw[de]at ao;cases ao
   |some eW=>
    rw[de]at ao
    simp only[Option.map_some,Option.some.injEq]at ao
    subst ao
    have bp:k<is.length:=by rw[←bB];exact(List.getElem?_eq_some_iff.1 de).1
    obtain⟨e,c',ar,ct⟩:=eU k is[k] (List.getElem?_eq_getElem bp)
    rw[de]at ct;simp only[Option.some.injEq]at ct;subst ct
    simp only[jc,List.getElem?_map,List.getElem?_eq_getElem bp,Option.map_some,Option.some.injEq]at iE
    rw[MM]
    cases cK:β is[k]with
    |none=>exact(h.dP _ _ ar cK).2
    |some l5=>rw[cK]at iE;cases iE
  ·intro j k ha kt lK az bY aL aev aew
   obtain⟨br,i1,bP,a1,h1,HO,rfl⟩:=zI az
   obtain⟨bw,i2,ca,a6,h2,HP,rfl⟩:=zI bY
   refine h.dS i1 i2 bP ca (fun e=>lK ?_) HO HP aL (cY.sG aev) (cY.sG aew)
   subst e
   have fQ:=(List.getElem?_eq_some_iff.1 h1).1
   have eH:=(List.getElem?_eq_some_iff.1 h2).1
   have:br=bw:=(List.getElem_inj (h₀:=fQ) (h₁:=eH) hnd).1 (by rw[(List.getElem?_eq_some_iff.1 h1).2,(List.getElem?_eq_some_iff.1 h2).2])
   omega
  ·rintro e bW ⟨v,e6,rfl,ea,ft,fY,la,zg,zh,akv⟩
   have ao:=aar h hnd eO (cs':=(C.out (ag.e5 (fun i=>bF+placeOf is i) vs) (cs.map (BC.c7 fun i=>bF+placeOf is i))).map (BC.c7 fun i=>is.getD (i - bF) 0)) (by rw[List.length_map,hlen,bB]) ea ft fY la (fun k i c r ct kl tD=> ?_) (fun k c ct iE=> ?_)
   ·exact aH _ _ _ _ _ ad (ao.put aC (ml zg))
   ·simp only[List.getElem?_map]at ct
    simp only[List.all_eq_true]at iJ
    cases de:(C.out (ag.e5 (fun i=>bF+placeOf is i) vs) (cs.map (BC.c7 fun i=>bF+placeOf is i)))[k]? with
    |none=>rw[de]at ct;cases ct
    |some eW=>
     rw[de]at ct
     simp only[Option.map_some,Option.some.injEq]at ct
     subst ct
     exact ML (r:=r.part) ad0 (iJ eW (List.mem_of_getElem? de)) rfl rfl rfl rfl (zh k eW r.part de (by simp[jc,kl,tD]))
   ·simp only[List.getElem?_map]at ct
    cases de:(C.out (ag.e5 (fun i=>bF+placeOf is i) vs) (cs.map (BC.c7 fun i=>bF+placeOf is i)))[k]? with
    |none=>rw[de]at ct;cases ct
    |some eW=>
     rw[de]at ct
     simp only[Option.map_some,Option.some.injEq]at ct
     subst ct
     rw[MM]
     exact akv k eW de iE
 ·exact ad.elim
theorem uE (σ:St) (is:List Nat):(reach σ is).Nodup∧∀i∈is,i∈reach σ is:=
 ⟨DL _,fun i hi=>wE (List.mem_append.2 (.inl hi))⟩
end
end RV
namespace RV
open Go Go.RowKit
section
variable {N:Nat} {aK:dU} {aF:Mem} {R:bC} {σ σ':St} {a:Act} {w w':World} {rd rd':Mem} {β β':bC} {P:Program} {Γ:Env}
theorem Nw {α gX:Type} {f:α→gX} {lo n:Nat} {xs ax:List α} :(over lo n xs ax).map f=(xs.map f).take lo++(ax.map f).take (min ax.length n)++(xs.map f).drop (lo+min ax.length n):=by
 simp only[over,List.map_append,List.map_take,List.map_drop,List.length_take]
 rw[Nat.min_comm n]
 congr 2
 rw[←List.map_take,←List.map_take]
 congr 1
 rcases Nat.le_total ax.length n with h|h
 ·rw[Nat.min_eq_left h,List.take_of_length_le h,List.take_of_length_le (Nat.le_refl _)]
 ·rw[Nat.min_eq_right h]
theorem Eu {α:Type} {lo n:Nat} {xs ax:List α} (h:min ax.length n=0):over lo n xs ax=xs:=by
 have:ax.take n=[]:=List.eq_nil_of_length_eq_zero (by rw[List.length_take];omega)
 simp[over,this]
theorem D0 {α:Type} {lo n:Nat} {xs ax:List α} (h:lo+n≤xs.length):(over lo n xs ax).length=xs.length:=by
 simp only[over,List.length_append,List.length_take,List.length_drop];omega
theorem ZI {α:Type} {sz lo n:Nat} {xs ax:List (List α)} (ah:∀r∈xs,r.length=sz) (hy:∀r∈ax,r.length=sz):
 (over lo n xs ax).flatten=xs.flatten.take (lo*sz)++ax.flatten.take (min ax.length n*sz)++xs.flatten.drop (lo*sz+min ax.length n*sz):=by
 simp only[over,List.flatten_append,List.length_take]
 rw[DS _ ah,LN _ ah,Nat.min_comm n,Nat.add_mul]
 congr 2
 rw[←DS _ hy]
 congr 1
 rcases Nat.le_total ax.length n with h|h
 ·rw[Nat.min_eq_left h,List.take_of_length_le h,List.take_of_length_le (Nat.le_refl _)]
 ·rw[Nat.min_eq_right h]
theorem aas {c c':BC} {lo n m:Nat} {d:D} (h:sU c lo n d=some (c',m)):∃eV,d.qt=some eV∧c.arr=true∧c'.arr=true∧eV.dY=c.dY∧c'.dY=c.dY∧m=min eV.count n∧c'.count=c.count∧lo+n≤c.count∧
 (m=0→c'=c)∧(eV.elems.map ag.d).all ag.dq=true∧(c.wf→eV.wf→c'.wf∧c'.elems=c.elems.take (lo*c.dY)++eV.elems.take (m*c.dY)++c.elems.drop (lo*c.dY+m*c.dY)):=by
 unfold sU at h
 split at h
 ·rename_i k xs dM ax
  split at h
  ·rename_i e;obtain⟨rfl,aB⟩:=e
   simp only[Option.some.injEq,Prod.mk.injEq]at h;obtain⟨rfl,rfl⟩:=h
   exact⟨.ints dM ax,rfl,rfl,rfl,rfl,rfl,rfl,by simp[BC.count,D0 aB],aB,fun e=>by rw[Eu e],by simp[BC.elems,ag.dq],fun _ _=>⟨trivial,by simp only[BC.elems,BC.dY,Nw,Nat.mul_one]⟩⟩
  ·cases h
 ·rename_i xs ax
  split at h
  ·rename_i aB
   simp only[Option.some.injEq,Prod.mk.injEq]at h;obtain⟨rfl,rfl⟩:=h
   exact⟨.flts ax,rfl,rfl,rfl,rfl,rfl,rfl,by simp[BC.count,D0 aB],aB,fun e=>by rw[Eu e],by simp[BC.elems,ag.dq],fun _ _=>⟨trivial,by simp only[BC.elems,BC.dY,Nw,Nat.mul_one]⟩⟩
  ·cases h
 ·rename_i sz xs tu ax
  split at h
  ·rename_i e;obtain⟨rfl,aB,HQ⟩:=e
   simp only[Option.some.injEq,Prod.mk.injEq]at h;obtain⟨rfl,rfl⟩:=h
   refine⟨.recs tu ax,rfl,rfl,rfl,rfl,rfl,rfl,by simp[BC.count,D0 aB],aB,fun e=>by rw[Eu e],by simpa [BC.elems,sD]using HQ,fun h1 h2=>⟨fun r aq=> ?_,ZI h1 h2⟩⟩
   simp only[over,List.mem_append]at aq
   rcases aq with (aq|aq)|aq
   ·exact h1 r (List.mem_of_mem_take aq)
   ·exact h2 r (List.mem_of_mem_take aq)
   ·exact h1 r (List.mem_of_mem_drop aq)
  ·cases h
 ·cases h
theorem acD {ty:TypeId} {op:Op} {ek:dL} {x y:bk} (ae:dm P ty op=some (.copy ek x y)):
 ∃p q t u e,op= .call { callee:= .builtin .copy,args:= #[p,q],argTypes:= #[t,u] }∧lJ P t=some ek∧dz P p=some x∧dz P q=some y∧P.underlying t=some (.slice e):=by
 cases op with
 |call c=>
  cases c with
  |mk callee args c2=>
   simp only[dm,nA]at ae
   split at ae
   ·rename_i _ b
    simp only[nd]at ae
    split at ae
    ·split at ae
     ·obtain⟨v,_,h⟩:=map_some ae;cases h
     ·cases ae
    ·split at ae
     ·cases ae
     ·cases ae
    ·split at ae
     ·cases ae
     ·cases ae
    ·split at ae
     ·split at ae
      ·cases ae
      ·cases ae
     ·cases ae
    ·rename_i p q t u a2 yd
     split at ae
     ·rename_i h1 h2 al
      split at ae
      ·rename_i ay
       simp only[Option.some.injEq,bo.copy.injEq]at ae
       obtain⟨rfl,rfl,rfl⟩:=ae
       have mJ:args= #[p,q]:=by rw[←Array.toList_inj];exact a2
       have xN:c2= #[t,u]:=by rw[←Array.toList_inj];exact yd
       subst mJ xN
       cases hu:P.underlying t with
       |none=>simp[lJ,hu]at h1
       |some K1=>
        cases K1 with
        |slice e=>exact⟨p,q,t,u,e,rfl,h1,h2,al,hu⟩
        |_=>simp[lJ,hu]at h1
      ·cases ae
     ·cases ae
    ·cases ae
   ·obtain⟨v,_,h⟩:=map_some ae;cases h
   ·split at ae
    ·cases ae
    ·cases ae
   ·cases ae
 |makeFunc f x y=>
  exfalso
  cases f with
  |func f=>
   simp only[dm,nz]at ae
   split at ae
   ·cases ae
   ·cases ae
  |_=>cases ae
 |_=>
  exfalso
  first
   |(cases ae;done)
   |(obtain⟨v,_,h⟩:=map_some ae;cases h;done)
   |(simp only[dm,ng,nv,nw,ox,nF,nx,nm,nn,np,nq,nr,ns,oC,nG]at ae
     repeat' (split at ae)
     all_goals first
      |(cases ae;done)
      |(obtain⟨v,_,h⟩:=map_some ae;cases h;done))
theorem MN {m:Mem} :∀{ds:List D} {us:List Value} (n:Nat),bI m ds us→bI m (ds.take n) (us.take n)
 |[],us,n,h=>by simp only[bI]at h;subst h;simp[bI]
 |d::ds,us,0,_=>by simp[bI]
 |d::ds,us,n+1,h=>by
  simp only[bI]at h
  obtain⟨v,vs,rfl,h1,h2⟩:=h
  simp only[List.take_succ_cons,bI]
  exact⟨v,vs.take n,rfl,h1,MN n h2⟩
theorem Zw {size m l cap:Nat} {A:Option Addr} {vs:List Value} (aB:vs.length=m*size) (aA:∀j x,vs[j]? =some x→∃aL,A=some aL∧w.cell? (aL.add j)=some x):
 (Builtin.firstCells size m (.slice A l cap)).run P w= .ok vs.toArray w:=by
 cases A with
 |none=>
  have:vs=[]:=by
   cases vs with
   |nil=>rfl
   |cons v vs=>obtain⟨aL,h,_⟩:=aA 0 v rfl;cases h
  subst this
  exact run_firstCells_none w size m l cap
 |some aL=>
  exact run_firstCells_some w size m aL l cap vs aB fun j x az=>by
   obtain⟨agB,h1,h2⟩:=aA j x az
   simp only[Option.some.injEq]at h1
   subst h1;exact h2
theorem abb (h:a8 N aK aF R σ a w rd β) {o:Oper} {ek:dL} {x y:bk} (ae:dm P o.type o.op=some (.copy ek x y)) (aC:gB N o.dst=true) {i lo n m:Nat} {e:Bool} {c c':BC} {d:D} {K:St→Prop}
 (ah:σ.aT x= .own i lo n) (ar:σ.aw i=some ⟨false,e,c⟩) (hy:toD σ (σ.aT y)=some d) (ao:sU c lo n d=some (c',m)) (eN:jM (σ.aw i)=some ek.sz)
 (bV:K ((σ.dK i ⟨false,e,c'⟩).put o.dst (.d (.int .i64 m)))):eL P N aK aF R o a w K:=by
 obtain⟨p,q,t,u,Dn,bu,jn,aS,aZ,hu⟩:=acD ae
 have Bq:mm P Dn=some ek:=by simpa [lJ,hu]using jn
 obtain⟨p3,xL⟩:=wG Bq
 obtain⟨eV,br,bw,c3,gW,ku,sd,K2,K3,K4,HS,agN⟩:=aas ao
 rw[ar]at eN
 obtain⟨_,eO⟩:=MJ eN
 have cL:=ef h aS
 have fp:=ef h aZ
 rw[ah]at cL
 obtain⟨A',vh,vs,HT,hs,Cd,vE,HU⟩:=z2 h hy br fp
 simp only[aP]at cL
 obtain⟨A,cap,Cf,mx,hA⟩:=cL
 rw[gW,eO]at hs
 have rG:(vs.take (m*ek.sz)).length=m*ek.sz:=by
  rw[List.length_take,hs,sd]
  exact Nat.min_eq_left (Nat.mul_le_mul_right _ (Nat.min_le_left _ _))
 have hf:(Builtin.firstCells ek.sz m (.slice A' eV.count vh)).run P w= .ok (vs.take (m*ek.sz)).toArray w:=Zw rG fun j z az=>HU j z (by
  rw[List.getElem?_take]at az
  split at az
  ·exact az
  ·cases az)
 have s7:Nat.min eV.count n=m:=sd.symm
 have u7:∀{w':World},(match A with|some x=>storeCells x (vs.take (m*ek.sz))|none=>pure ()).run P w= .ok () w'→(execOp a.eval o).run P w= .ok (.value (.int .i64 m)) w':=by
  intro w' aq
  have ad1:(Builtin.copy_ #[t,u] o.type #[.slice A n cap,.slice A' eV.count vh]).run P w= .ok (.int .i64 m) w':=by
   cases A with
   |none=>
    simp only[Sem.run_pure,Result.ok.injEq,true_and]at aq
    subst aq
    simp[Builtin.copy_,fa hu,jE p3,Builtin.lenOf,s7,hf,goInt]
   |some x=>
    simp only at aq
    simp[Builtin.copy_,fa hu,jE p3,Builtin.lenOf,s7,hf,aq,goInt]
  simp only[execOp,bu,resolve,invoke,builtin,Sem.run_bind,Sem.run_pure,Result.andThen_ok,List.map_toArray,List.map_cons,List.map_nil,Cf,HT,ad1]
 have hval:∀{rd:Mem} {β:bC},aP rd β (.d (.int .i64 m)) (.int .i64 m):=by intros;simp only[aP,bn]
 rcases hA with ⟨rfl,rfl⟩|⟨r,hi,hA,_⟩
 ·have Uj:m=0:=by rw[sd];exact Nat.min_zero _
  have de:=K4 Uj
  subst de
  refine eL.value (u7 (w':=w) (by subst Uj;cases A<;>simp[storeCells])) (σ':=σ.dK i ⟨false,e,c'⟩) (rd':=rd) (β':=β) (by rw[MK ar];exact h) hval aC bV
 ·obtain⟨b,cK,xO,rF,fQ,_⟩:=h.box i r hi
  rw[ar]at cK;simp only[Option.some.injEq]at cK;subst cK
  obtain⟨cf,aY,aW,aU⟩:=(ey.elems bw).1 xO
  obtain⟨cW,dy⟩:=agN aW Cd
  have Cc:=zC aW bw
  have alA:m≤n:=by rw[sd];exact Nat.min_le_right _ _
  have Br:lo*ek.sz+m*ek.sz≤c.count*ek.sz:=by rw[←Nat.add_mul];exact Nat.mul_le_mul_right _ (by omega)
  have So:=MN (m*ek.sz) vE
  have p5:(eV.elems.take (m*ek.sz)).length=m*ek.sz:=by rw[←qI So,rG]
  obtain⟨w',ea,ft,fY,la⟩:=h.write (P:=P) hi ar (vs:=vs.take (m*ek.sz)) (p:=lo*ek.sz) (by rw[rG];rw[eO]at aY;omega) (fun v aA=>Ad HS (su (β:=β) vE) v (List.mem_of_mem_take aA))
  refine eL.value (u7 (w':=w') (by
   subst hA
   simp only[cf,eO]
   exact ea)) (ft c' ((ey.elems c3).2 ⟨by rw[cf,ku],by rw[K2,ku];exact aY,cW,?_⟩)) hval aC bV
  rw[dy,eO]
  have:=aU.write (w':=w') (p:=lo*ek.sz) (vs:=eV.elems.take (m*ek.sz)) (by rw[p5,Cc,eO];exact Br) (cD.oq So fun j v az=>fY j v az) (by rw[p5];rw[rG]at la;exact la)
  rw[p5]at this
  exact this
theorem D1 (j:Nat):∀(xs ax:List ag),ag.cC j (xs++ax)=(ag.cC j xs||ag.cC j ax)
 |[],ax=>by simp[ag.cC]
 |x::xs,ax=>by simp only[List.cons_append,ag.cC,D1 j xs ax,Bool.or_assoc]
theorem Ms {ty:TypeId} {op:Op} {f:Nat} {as:List bk} (ae:dm P ty op=some (.call f as)):
 ∃args c2,op= .call { callee:= .value (.func f),args,argTypes:=c2 }∧kD P c2.toList args.toList=some as:=by
 cases op with
 |call c=>
  cases c with
  |mk callee args c2=>
   simp only[dm,nA]at ae
   split at ae
   ·exfalso
    simp only[nd]at ae
    repeat' (split at ae)
    all_goals first
     |(cases ae;done)
     |(obtain⟨v,_,h⟩:=map_some ae;cases h;done)
   ·rename_i _ YM
    obtain⟨v,h1,h2⟩:=map_some ae
    simp only[bo.call.injEq]at h2
    obtain⟨rfl,rfl⟩:=h2
    exact⟨args,c2,rfl,h1⟩
   ·split at ae
    ·cases ae
    ·cases ae
   ·cases ae
 |makeFunc f x y=>
  exfalso
  cases f with
  |func f=>
   simp only[dm,nz]at ae
   split at ae
   ·cases ae
   ·cases ae
  |_=>cases ae
 |_=>
  exfalso
  first
   |(cases ae;done)
   |(obtain⟨v,_,h⟩:=map_some ae;cases h;done)
   |(simp only[dm,ng,nv,nw,ox,nF,nx,nm,nn,np,nq,nr,ns,oC,nG]at ae
     repeat' (split at ae)
     all_goals first
      |(cases ae;done)
      |(obtain⟨v,_,h⟩:=map_some ae;cases h;done))
theorem D2 {ty:TypeId} {op:Op} {x:bk} {as:List bk} (ae:dm P ty op=some (.gj x as)):
 ∃y args c2,op= .call { callee:= .value y,args,argTypes:=c2 }∧dz P y=some x∧kD P c2.toList args.toList=some as:=by
 cases op with
 |call c=>
  cases c with
  |mk callee args c2=>
   simp only[dm,nA]at ae
   split at ae
   ·exfalso
    simp only[nd]at ae
    repeat' (split at ae)
    all_goals first
     |(cases ae;done)
     |(obtain⟨v,_,h⟩:=map_some ae;cases h;done)
   ·obtain⟨v,_,h⟩:=map_some ae;cases h
   ·split at ae
    ·rename_i h1 h2
     simp only[Option.some.injEq,bo.gj.injEq]at ae
     obtain⟨rfl,rfl⟩:=ae
     exact⟨_,args,c2,rfl,h1,h2⟩
    ·cases ae
   ·cases ae
 |makeFunc f x y=>
  exfalso
  cases f with
  |func f=>
   simp only[dm,nz]at ae
   split at ae
   ·cases ae
   ·cases ae
  |_=>cases ae
 |_=>
  exfalso
  first
   |(cases ae;done)
   |(obtain⟨v,_,h⟩:=map_some ae;cases h;done)
   |(simp only[dm,ng,nv,nw,ox,nF,nx,nm,nn,np,nq,nr,ns,oC,nG]at ae
     repeat' (split at ae)
     all_goals first
      |(cases ae;done)
      |(obtain⟨v,_,h⟩:=map_some ae;cases h;done))
theorem a8.newAt (h:a8 N aK aF R σ a w rd β) {bW:World} (mL:Below w.heap.size w bW) {σ':St} {i:Nat} {b:b1} (he:b.ext=false) {r:cY} (aq:w.heap.size≤r.bS) (yb:r.whole=true)
 {f:ag→ag} (hf:∀x v,aP rd β x v→aP rd (fun j=>if j=i then some r else β j) (f x) v)
 (tv:σ'.af=fun t=>f (σ.af t)) (gQ:∀j,σ'.aw j=if j=i then some b else (σ.aw j).map (b1.fm f))
 (ao:ey bW rd (fun j=>if j=i then some r else β j) r b.c) (aS:kN bW r):
 a8 N aK aF R σ' a bW rd (fun j=>if j=i then some r else β j)where
 size:=h.size
 defers:=h.defers
 cw:=h.cw.below mL
 c4:=En mL (fun _ _ e _=>e) (fun j r' az=>by split at az;simp only[Option.some.injEq]at az;subst az;exact .inr aq;exact .inl az) h.c4
 dd:=h.dd
 cJ:=EI mL h.cJ
 aF:=h.aF
 dV:=fun j r' fD az ah bg aL a2=>by
  split at az
  ·simp only[Option.some.injEq]at az
   subst az
   cases e:rd aL with
   |none=>rfl
   |some v=>have:=qL (h.cJ aL v e);have:=a2.1;omega
  ·rename_i eG
   rw[gQ,if_neg eG]at ah
   obtain⟨cR,h0,_⟩:=h.box j r' az
   rw[h0]at ah
   simp only[Option.map_some,Option.some.injEq]at ah
   subst ah
   exact h.dV j r' cR az h0 bg aL a2
 dW:=fun t=>by rw[tv];exact hf _ _ (h.dW t)
 box:=fun j r' az=>by
  split at az
  ·rename_i eG
   simp only[Option.some.injEq]at az
   subst az
   refine⟨b,by rw[gQ,if_pos eG],ao,aS,fun _=>⟨Nat.le_trans h.cw.size aq,yb⟩,fun e=>by rw[he]at e;cases e⟩
  ·rename_i eG
   obtain⟨cR,h0,de,eM,h1,h2⟩:=h.box j r' az
   have bp:=eM.lt
   have yc:bW.heap[r'.bS]? =w.heap[r'.bS]? :=mL.block _ bp
   exact⟨cR.fm f,by rw[gQ,if_neg eG,h0];rfl,de.fm hf (fun k _ _=>na yc),eM.sE yc,h1,h2⟩
 dP:=fun j fD ah az=>by
  split at az
  ·cases az
  ·rename_i eG
   rw[gQ,if_neg eG]at ah
   cases h0:σ.aw j with
   |none=>rw[h0]at ah;cases ah
   |some cR=>
    rw[h0]at ah
    simp only[Option.map_some,Option.some.injEq]at ah
    subst ah
    obtain⟨br,bw⟩:=h.dP j cR h0 az
    exact⟨br,by rw[←bw];exact uD f cR.c⟩
 dS:=fun j k ha kt lK az ad aL a2 cK=>by
  split at az<;>split at ad
  ·omega
  ·simp only[Option.some.injEq]at az
   subst az
   obtain⟨_,_,_,eM,_⟩:=h.box k kt ad
   have:=eM.lt
   have:=a2.1
   have:=cK.1
   omega
  ·simp only[Option.some.injEq]at ad
   subst ad
   obtain⟨_,_,_,eM,_⟩:=h.box j ha az
   have:=eM.lt
   have:=a2.1
   have:=cK.1
   omega
  ·exact h.dS j k ha kt lK az ad aL a2 cK
theorem aat {f:Nat} {C:bq} (b9:my P aF f C) (h:a8 N aK aF R σ a w rd β) {o:Oper} (aC:gB N o.dst=true) {vs:List ag} {us:Array Value} (hu:bN rd β vs us.toList)
 (aq:(execOp a.eval o).run P w= .ok (.enter f us) w) {K:St→Prop} (ad:nu C o.dst σ K vs):eL P N aK aF R o a w K:=by
 intro next Q aH
 unfold nu at ad
 split at ad
 ·rename_i ds fX
  obtain⟨aS,ad⟩:=ad
  by_cases Gc:C.own=true
  ·rw[if_pos Gc]at ad
   split at ad
   ·rename_i i c n kc gS
    have mI:=toDs_rep h (S:=hn β vs) vs _ ds fX hu fun i r aL hi dJ eI=>⟨i,r,hi,dJ,eI⟩
    refine uK b9 aq (m:=plus w (hn β vs) rd) (h.dd.trans (jH _ _ _)) (oo h.cJ) aS mI ?_
    intro v bW ar aA
    obtain⟨c',qs,A,cap,yh,rfl,rA,hA⟩:=aA.2 Gc
    rw[gS]at yh
    simp only[Option.some.injEq,Prod.mk.injEq]at yh
    obtain⟨rfl,rfl⟩:=yh
    rcases hA with ⟨h0,h1⟩|⟨r,hw,dJ,rF,fR,hA,mx⟩
    ·have Gd:c.isNil=true:=by
      cases fE:C.res ds with
      |ints k xs=>
       rw[fE]at gS
       simp only[hL,Option.some.injEq,Prod.mk.injEq]at gS
       obtain⟨rfl,rfl⟩:=gS
       rw[List.eq_nil_of_length_eq_zero h0];rfl
      |flts xs=>
       rw[fE]at gS
       simp only[hL,Option.some.injEq,Prod.mk.injEq]at gS
       obtain⟨rfl,rfl⟩:=gS
       rw[List.eq_nil_of_length_eq_zero h0];rfl
      |_=>rw[fE]at gS;simp[hL]at gS
     rw[←kc]at ad
     exact aH _ _ _ _ _ ad ((OX (h.below ar) (pn σ i _) Gd).put aC (by simp only[aP];exact⟨A,cap,rfl,rA,.inl ⟨h0,h1⟩⟩))
    ·rw[←kc]at ad
     have rE:=pn (rd:=rd) (β:=β) σ i ⟨false,false,c⟩
     refine aH _ _ _ _ _ ad (a8.put (β:=eK β i (some r)) (a8.newAt h ar (b:=⟨false,false,c⟩) rfl dJ hw (rE.rep _) rE.af rE.aw ?_ rF) aC ?_)
     ·cases fE:C.res ds with
      |ints k xs=>
       rw[fE]at gS
       simp only[hL,Option.some.injEq,Prod.mk.injEq]at gS
       obtain⟨rfl,rfl⟩:=gS
       exact fR
      |flts xs=>
       rw[fE]at gS
       simp only[hL,Option.some.injEq,Prod.mk.injEq]at gS
       obtain⟨rfl,rfl⟩:=gS
       exact fR
      |_=>rw[fE]at gS;simp[hL]at gS
     ·simp only[aP]
      refine⟨A,cap,rfl,rA,.inr ⟨r,if_pos rfl,by rw[hA,Nat.zero_mul,Nat.add_zero],fun _=>by omega⟩⟩
   ·exact ad.elim
  ·rw[if_neg Gc]at ad
   split at ad
   ·rename_i Ca
    simp only[Bool.or_eq_true]at Ca
    rcases Ca with p4|iJ
    ·have mI:=toDs_rep h (S:=hn β vs) vs _ ds fX hu fun i r aL hi dJ eI=>⟨i,r,hi,dJ,eI⟩
     refine uK b9 aq (m:=plus w (hn β vs) rd) (h.dd.trans (jH _ _ _)) (oo h.cJ) aS mI ?_
     intro v bW ar aA
     exact aH _ _ _ _ _ ad ((h.below ar).put aC (Ns p4 aA.rep))
    ·have mI:=uG h iJ fX hu
     refine uK b9 aq h.dd h.cJ aS mI ?_
     intro v bW ar aA
     exact aH _ _ _ _ _ ad ((h.fresh ar).put aC (ml aA.rep))
   ·obtain⟨aB,ad⟩:=ad
    have mI:=toDs_rep h (S:=hn β vs) vs _ ds fX hu fun i r aL hi dJ eI=>⟨i,r,hi,dJ,eI⟩
    refine uK b9 aq (m:=plus w (hn β vs) rd) (h.dd.trans (jH _ _ _)) (oo h.cJ) aS mI ?_
    intro v bW ar aA
    exact aH _ _ _ _ _ ad (((h.oQ aB).fresh ar).put aC (ml aA.rep))
 ·exact ad.elim
theorem abR {w:World} (d:Nat) {t e:TypeId} (A:Option Addr) (n c qs c':Nat) (h:P.underlying t=some (.slice e)):(Op.equalIn (d+1) t (.slice A n c) (.slice none qs c')).run P w= .ok A.isNone w:=by
 cases A<;>simp[Op.equalIn,run_underlying h]
theorem acE {w:World} {t e:TypeId} (A:Option Addr) (n c qs c':Nat) (h:P.underlying t=some (.slice e)):(binOp .eql t (.slice A n c) (.slice none qs c')).run P w= .ok (.bool A.isNone) w:=by
 simp only[binOp]
 simp[Op.equal,Op.maxDepth,abR (w:=w) 9999 A n c qs c' h]
theorem abS {ty:TypeId} {op:Op} {x:bk} (ae:dm P ty op=some (.q2 x)):
 ∃t p n4 e,op= .binOp .eql t p (.const (.slice none 0 0)) n4∧dz P p=some x∧P.underlying t=some (.slice e):=by
 cases op with
 |binOp b t p q n4=>
  simp only[dm,nF]at ae
  split at ae
  ·repeat' split at ae
   all_goals cases ae
  ·rename_i dg h1 h2
   split at ae
   ·rename_i e he
    simp only[Option.some.injEq,bo.q2.injEq]at ae
    subst ae
    exact⟨t,p,n4,e,rfl,h1,he⟩
   ·cases ae
  ·cases ae
 |call c=>
  exfalso
  cases c with
  |mk callee args c2=>
   simp only[dm,nA]at ae
   split at ae
   ·simp only[nd]at ae
    repeat' (split at ae)
    all_goals first
     |(cases ae;done)
     |(obtain⟨v,_,h⟩:=map_some ae;cases h;done)
   ·obtain⟨v,h1,h2⟩:=map_some ae;cases h2
   ·split at ae
    ·cases ae
    ·cases ae
   ·cases ae
 |makeFunc f x y=>
  exfalso
  cases f with
  |func f=>
   simp only[dm,nz]at ae
   split at ae
   ·cases ae
   ·cases ae
  |_=>cases ae
 |_=>
  exfalso
  first
   |(cases ae;done)
   |(obtain⟨v,_,h⟩:=map_some ae;cases h;done)
   |(simp only[dm,ng,nv,nw,ox,nx,nm,nn,np,nq,nr,ns,oC,nG]at ae
     repeat' (split at ae)
     all_goals first
      |(cases ae;done)
      |(obtain⟨v,_,h⟩:=map_some ae;cases h;done))
theorem Ea (cE:aO P aF Γ) (h:a8 N aK aF R σ a w rd β) {f:Nat} {o:Oper} (aC:gB N o.dst=true) {vs:List ag} {us:Array Value} (hu:bN rd β vs us.toList)
 (aq:sT P f→(execOp a.eval o).run P w= .ok (.enter f us) w) {K:St→Prop} (ad:ly Γ o.dst σ K f vs):eL P N aK aF R o a w K:=by
 unfold ly at ad
 split at ad
 ·rename_i C fE
  have b9:=cE.2 f C fE
  exact D9 b9 h aC hu (aq b9.1) (uE σ _).1 (fun i hi=>(uE σ _).2 i ((uE σ _).2 i (wE (sF vs i hi)))) ad
 ·rename_i C _ fE
  have b9:=cE.1 f C fE
  exact aat b9 h aC hu (aq b9.1) ad
 ·exact ad.elim
theorem EK:∀{ds:List D} {us:List Value},bI rd ds us→bN rd β (ds.map cX) us
 |[],us,h=>by simpa only[bI,bN,List.map_nil]using h
 |d::ds,us,h=>by
  simp only[bI,bN,List.map_cons]at*
  obtain⟨v,vs,e,h1,h2⟩:=h
  exact⟨v,vs,e,ml h1,EK h2⟩
theorem EL {g:Nat→Nat} :∀(v:ag),v.tidy (fun _=>false)=true→v.c7 g=v:=by
 intro v
 refine ag.rec (motive_1:=fun v=>v.tidy (fun _=>false)=true→v.c7 g=v) (motive_2:=fun vs=>ag.fT (fun _=>false) vs=true→ag.e5 g vs=vs) ?_ ?_ ?_ ?_ ?_ ?_ ?_ ?_ ?_ ?_ ?_ v
 ·intro x _;rfl
 ·intro cs cm h;simp only[ag.tidy]at h;simp only[ag.c7,cm h]
 ·intro i o h;simp[ag.tidy]at h
 ·intro i o n h;simp[ag.tidy]at h
 ·intro i o n h;simp[ag.tidy]at h
 ·intro f a b tE tF h;simp only[ag.tidy,Bool.and_eq_true]at h;simp only[ag.c7,tE h.1,tF h.2]
 ·intro l h;simp[ag.tidy]at h
 ·intro h;simp[ag.tidy]at h
 ·intro h;simp[ag.tidy]at h
 ·intro _;rfl
 ·intro x xs tE tF h;simp only[ag.fT,Bool.and_eq_true]at h;simp only[ag.e5,tE h.1,tF h.2]
theorem MO {g:Nat→Nat} :∀(vs:List ag),ag.fT (fun _=>false) vs=true→ag.e5 g vs=vs
 |[],_=>rfl
 |v::vs,h=>by
  simp only[ag.fT,Bool.and_eq_true]at h
  simp only[ag.e5,EL v h.1,MO vs h.2]
theorem BC.EL {g:Nat→Nat} {c:BC} (h:c.tidy (fun _=>false)=true):c.c7 g=c:=by
 cases c with
 |cells cs=>simp only[BC.c7,MO cs h]
 |_=>rfl
theorem Af {p:Nat→Bool} :∀(v:ag),v.tidy (fun _=>false)=true→v.tidy p=true:=by
 intro v
 refine ag.rec (motive_1:=fun v=>v.tidy (fun _=>false)=true→v.tidy p=true) (motive_2:=fun vs=>ag.fT (fun _=>false) vs=true→ag.fT p vs=true) ?_ ?_ ?_ ?_ ?_ ?_ ?_ ?_ ?_ ?_ ?_ v
 ·intro x _;rfl
 ·intro cs cm h;simp only[ag.tidy]at h⊢;exact cm h
 ·intro i o h;simp[ag.tidy]at h
 ·intro i o n h;simp[ag.tidy]at h
 ·intro i o n h;simp[ag.tidy]at h
 ·intro f a b tE tF h;simp only[ag.tidy,Bool.and_eq_true]at h⊢;exact⟨tE h.1,tF h.2⟩
 ·intro l h;simp[ag.tidy]at h
 ·intro h;simp[ag.tidy]at h
 ·intro h;simp[ag.tidy]at h
 ·intro _;rfl
 ·intro x xs tE tF h;simp only[ag.fT,Bool.and_eq_true]at h⊢;exact⟨tE h.1,tF h.2⟩
theorem MP {p:Nat→Bool} :∀(vs:List ag),ag.fT (fun _=>false) vs=true→ag.fT p vs=true
 |[],_=>rfl
 |v::vs,h=>by
  simp only[ag.fT,Bool.and_eq_true]at h⊢
  exact⟨Af v h.1,MP vs h.2⟩
theorem BC.Af {p:Nat→Bool} {c:BC} (h:c.tidy (fun _=>false)=true):c.tidy p=true:=by
 cases c with
 |cells cs=>exact MP cs h
 |_=>rfl
theorem LP {σ:St} {p:Nat→Bool} :∀{is:List Nat} {cs:List BC},contents σ (fun _=>false) is=some cs→contents σ p is=some cs∧gg σ is cs=σ
 |[],cs,h=>by
  simp only[contents,Option.some.injEq]at h
  subst h
  exact⟨rfl,rfl⟩
 |i::r,cs,h=>by
  simp only[contents]at h
  split at h
  ·rename_i e c cs' ar aq
   split at h
   ·rename_i ao
    simp only[Option.some.injEq]at h
    subst h
    obtain⟨h1,h2⟩:=LP (p:=p) aq
    refine⟨by simp only[contents,ar,h1,BC.Af ao,if_true],?_⟩
    have ay:σ.dK i ⟨false,e,c⟩=σ:=by
     unfold St.dK kM
     cases σ with
     |mk af aw=>
      simp only at ar⊢
      congr 1
      funext t
      by_cases ae:t=i
      ·subst ae;rw[if_pos rfl,ar]
      ·rw[if_neg ae]
    simp only[gg,ar,ay,h2]
   ·cases h
  ·cases h
theorem aau {C:fL} {σ:St} {dst:Option Nat} {K:St→Prop} {vs:List ag} (h:oE C σ (fun v=>K (σ.put dst v)) vs):ow C dst σ K vs (distinct (ag.gE vs)):=by
 unfold oE at h
 split at h
 ·rename_i cs eO
  obtain⟨h1,h2,al⟩:=h
  obtain⟨bB,cu,_⟩:=zz eO
  obtain⟨br,bw⟩:=LP (p:=fun i=>(distinct (ag.gE vs)).contains i) eO
  have agO:∀g:Nat→Nat,cs.map (BC.c7 g)=cs:=fun g=>by
   conv=>rhs;rw[←List.map_id cs]
   exact List.map_congr_left fun c ao=>BC.EL (cu c ao)
  unfold ow
  rw[br]
  simp only[agO,h2]
  refine⟨h1,bB,?_,?_⟩
  ·rw[List.all_eq_true];exact fun c ao=>BC.Af (cu c ao)
  ·rw[bw];exact al
 ·exact h.elim
theorem MQ (cE:aO P aF Γ) (h:a8 N aK aF R σ a w rd β) {o:Oper} {l:bo} (ae:dm P o.type o.op=some l) (aC:gB N o.dst=true) {K:St→Prop}
 (ad:bj Γ σ (fun v=>K (σ.put o.dst v)) l):eL P N aK aF R o a w K:=by
 cases ao:l.j7 with
 |false=>exact(aa4 h ae ao ad).goes aC
 |true=>
  by_cases iI:∀x as,l= .gj x as→∀f u v,σ.aT x≠ .c0 f u v
  ·exact fun next Q aH=>aaq cE.1 h ae ao ad iI fun av u w' rd' h1 h2 al=>aH _ _ _ _ _ h1 (h2.put aC al)
  ·have:∃x as f u v,l= .gj x as∧σ.aT x= .c0 f u v:=by
    refine Classical.byContradiction fun dX=>iI fun x as aB f u v e=>dX ⟨x,as,f,u,v,aB,e⟩
   obtain⟨x,HX,f,fst,cap,rfl,e⟩:=this
   obtain⟨y,as,c2,bu,hy,has⟩:=D2 ae
   have cL:=ef h hy
   have Ci:=nb h has
   simp only[bj,e]at ad
   rw[e]at cL
   simp only[aP]at cL
   obtain⟨e8,vc,aA,bP,ca⟩:=cL
   split at ad
   ·rename_i C fE
    have b9:=cE.2 f C fE
    refine D9 b9 h aC (us:=e8++as.map a.eval++vc) ?_ (zQ bu aA b9.1) (DL _) (fun i hi=>wE (sF _ i hi)) (aau ad)
    simp only[Array.toList_append,Array.toList_map]
    exact pj (pj bP Ci) ca
   ·exact ad.elim
theorem Ev (cE:aO P aF Γ) (h:a8 N aK aF R σ a w rd β) {o:Oper} {l:bo} (ae:dm P o.type o.op=some l) (aC:gB N o.dst=true) {K:St→Prop}
 (ad:cQ Γ o.dst σ K l):eL P N aK aF R o a w K:=by
 have aex:∀{i:Nat} {xs:List ag} {vs:List Value} {r:Option cY},ag.cC i xs=false→bN rd β xs vs→bN rd (eK β i r) xs vs:=fun aH aq=>
  bN.congr _ _ (fun j az=>by
   simp only[eK];rw[if_neg];rintro rfl;rw[aH]at az;cases az) aq
 cases l with
 |alloc z=>
  simp only[cQ]at ad
  split at ad
  ·rename_i i hi
   refine wQ h ae rfl aC (i:=i) (g:=fun b=>σ.fresh i b) (by simp only[made];exact ad) (fun b=>pn σ i b) (fun x e=>by cases e)
  ·exact ad.elim
 |box x=>
  simp only[cQ]at ad
  split at ad
  ·rename_i i hi
   refine wQ h ae rfl aC (i:=i) (g:=fun b=>σ.fresh i b) (by simp only[made];exact ad.2) (fun b=>pn σ i b) (fun y e r vs aq=> ?_)
   simp only[bo.box.injEq]at e
   subst e
   refine aex ?_ aq
   have:=ad.1
   cases aA:σ.aT x with
   |agg cs=>rw[aA]at this;simpa [ag.has,ag.cells]using this
   |_=>rw[aA]at this;simpa [ag.cC,ag.cells]using this
  ·exact ad.elim
 |kT ek z n=>
  simp only[cQ]at ad
  split at ad
  ·rename_i i k m hi hm
   split at ad
   ·rename_i c ao
    refine wQ h ae rfl aC (i:=i) (g:=fun b=>σ.fresh i b) (by simp only[made,hm,ao];exact ad) (fun b=>pn σ i b) (fun x e=>by cases e)
   ·exact ad.elim
  ·exact ad.elim
 |nil ek=>
  simp only[cQ]at ad
  split at ad
  ·rename_i i hi
   refine wQ h ae rfl aC (i:=i) (g:=fun b=>σ.fresh i b) (by simp only[made];exact ad) (fun b=>pn σ i b) (fun x e=>by cases e)
  ·exact ad.elim
 |store n x y=>
  simp only[cQ]at ad
  split at ad
  ·rename_i i off ah
   split at ad
   ·rename_i e c ar
    obtain⟨h1,h2,ad⟩:=ad
    split at ad
    ·rename_i c' ao
     exact wM h ae aC ar h1 h2 (.inl ⟨off,ah,ao⟩) ad
    ·exact ad.elim
   ·exact ad.elim
  ·rename_i i j off ah
   split at ad
   ·rename_i e c ar
    obtain⟨h1,h2,ad⟩:=ad
    split at ad
    ·rename_i c' ao
     exact wM h ae aC ar h1 h2 (.inr ⟨j,off,ah,ao⟩) ad
    ·exact ad.elim
   ·exact ad.elim
  ·exact ad.elim
 |app ek x y=>
  simp only[cQ]at ad
  split at ad
  ·rename_i i lo n ah
   split at ad
   ·rename_i c d ar hy
    split at ad
    ·rename_i c' ao
     obtain⟨h1,rfl,al,aE,ad⟩:=ad
     exact abQ h ae aC ah ar hy ao h1 al aE ad
    ·exact ad.elim
   ·exact ad.elim
  ·exact ad.elim
 |copy ek x y=>
  simp only[cQ]at ad
  split at ad
  ·rename_i i lo n ah
   split at ad
   ·rename_i e c d ar hy
    split at ad
    ·rename_i c' m ao
     exact abb h ae aC ah ar hy ao ad.1 ad.2
    ·exact ad.elim
   ·exact ad.elim
  ·exact ad.elim
 |call f args=>
  simp only[cQ]at ad
  obtain⟨as,c2,bu,has⟩:=Ms ae
  exact Ea cE h aC (us:=as.map a.eval) (by simpa using nb h has) (fun bb=>Et bu bb) ad
 |gj x args=>
  simp only[cQ]at ad
  obtain⟨y,as,c2,bu,hy,has⟩:=D2 ae
  have cL:=ef h hy
  have Ci:=nb h has
  split at ad
  ·rename_i f fst cap e
   rw[e]at cL
   simp only[aP,bn]at cL
   obtain⟨e8,vc,aA,bP,ca⟩:=cL
   refine Ea cE h aC (us:=e8++as.map a.eval++vc) ?_ (fun bb=>zQ bu aA bb) ad
   simp only[Array.toList_append,Array.toList_map]
   exact pj (pj (EK bP) Ci) (EK ca)
  ·rename_i f fst cap e
   rw[e]at cL
   simp only[aP]at cL
   obtain⟨e8,vc,aA,bP,ca⟩:=cL
   refine Ea cE h aC (us:=e8++as.map a.eval++vc) ?_ (fun bb=>zQ bu aA bb) ad
   simp only[Array.toList_append,Array.toList_map]
   exact pj (pj bP Ci) ca
  ·exact ad.elim
 |q2 x=>
  simp only[cQ]at ad
  split at ad
  ·rename_i d agP
   obtain⟨HY,ad⟩:=ad
   obtain⟨t,p,n4,e,bu,aS,hu⟩:=abS ae
   have cL:=ef h aS
   have fR:∃c,d.qt=some c∧(c.count=0→d.emp=true)∧(c.dY=0→d.emp=true):=by
    cases d with
    |ints k xs=>exact⟨_,rfl,fun h0=>by cases xs with|nil=>rfl|cons _ _=>simp[BC.count]at h0,fun h0=>by simp[BC.dY]at h0⟩
    |flts xs=>exact⟨_,rfl,fun h0=>by cases xs with|nil=>rfl|cons _ _=>simp[BC.count]at h0,fun h0=>by simp[BC.dY]at h0⟩
    |_=>simp[D.xC]at HY
   obtain⟨c,ao,HZ,H0⟩:=fR
   obtain⟨A,cap,vs,aA,hs,_,_,gl⟩:=z2 h agP ao cL
   refine eL.value (u:= .bool A.isNone) (v:= .d (.bool A.isNone)) (w':=w) ?_ h (by simp only[aP,bn]) aC (ad _ fun aH=> ?_)
   ·have Bo:=acE (w:=w) A c.count cap 0 0 hu
    simp only[execOp,bu,aA,show a.eval (.const (.slice none 0 0))= .slice none 0 0 from rfl]
    simp[eqGuard,Bo]
   ·cases rC:vs with
    |nil=>
     rw[rC]at hs
     rcases Nat.mul_eq_zero.1 (show c.count*c.dY=0 from hs.symm)with h0|h0
     ·exact HZ h0
     ·exact H0 h0
    |cons u us=>
     obtain⟨aL,h1,_⟩:=gl 0 u (by rw[rC];rfl)
     rw[h1]at aH;cases aH
  ·exact ad.elim
 |_=>
  refine MQ cE h ae aC ?_
  simpa only[cQ]using ad
end
end RV
namespace RV
open Go Go.RowKit
section
variable {N:Nat} {aK:dU} {aF:Mem} {R:bC} {σ σ':St} {a:Act} {w w':World} {rd rd':Mem} {β β':bC} {P:Program} {Γ:Env} {ops:Array Oper}
inductive iF {α gX:Type} (r:α→gX→Prop):List α→List gX→Prop
 |nil:iF r [] []
 |cons {x:α} {y:gX} {xs:List α} {ax:List gX} :r x y→iF r xs ax→iF r (x::xs) (y::ax)
def hb (N:Nat) (aK:dU) (aF:Mem) (R:bC) (K:St→Prop) (a:Act) (w:World):Prop:=∃σ rd β,K σ∧a8 N aK aF R σ a w rd β
theorem hb.mono {K ei:St→Prop} (ad:∀σ,K σ→ei σ) (h:hb N aK aF R K a w):hb N aK aF R ei a w:=by
 obtain⟨σ,rd,β,h1,h2⟩:=h
 exact⟨σ,rd,β,ad σ h1,h2⟩
theorem zR {M:Nat} (bR:N≤M) {d:Option Nat} (h:gB N d=true):gB M d=true:=by
 cases d with
 |none=>rfl
 |some d=>have:=Mj h;simp[gB];omega
theorem zJ (h:a8 N aK aF R σ a w rd β) {o:Oper} {g:Option (Nat×Bool)} (ae:xo ops o.guard=some g) {yes no:Prop} (bb:guarded σ g yes no):
 (Region.wanted o (yielded ops a.tmps)=true∧yes)∨(Region.wanted o (yielded ops a.tmps)=false∧no):=by
 unfold xo at ae
 split at ae
 ·rename_i aH
  simp only[Option.some.injEq]at ae;subst ae
  left
  exact⟨by simp[Region.wanted,aH],bb⟩
 ·rename_i j b az
  split at ae
  ·rename_i d aC
   simp only[Option.some.injEq]at ae;subst ae
   simp only[guarded]at bb
   have aq:=h.dW d
   have hw:Region.wanted o (yielded ops a.tmps)=(yielded ops a.tmps j==some b):=by simp[Region.wanted,az]
   rw[hw]
   split at bb
   ·rename_i c ao
    rw[ao]at aq
    simp only[aP,bn]at aq
    have hy:yielded ops a.tmps j=some c:=by
     unfold yielded
     rw[aC]
     simp only[Option.bind_some]
     rw[Array.getD_eq_getD_getElem?]at aq
     cases e:a.tmps[d]? with
     |none=>rw[e]at aq;cases aq
     |some v=>rw[e]at aq;simp only[Option.getD_some]at aq;subst aq;rfl
    rw[hy]
    by_cases Cj:c=b
    ·left;exact⟨by simp[Cj],bb.1 Cj⟩
    ·right;exact⟨by simpa using Cj,bb.2 (by cases c<;>cases b<;>first|rfl|exact absurd rfl Cj)⟩
   ·rename_i ao
    rw[ao]at aq
    simp only[aP]at aq
    have hy:yielded ops a.tmps j=none:=by
     unfold yielded
     rw[aC]
     simp only[Option.bind_some]
     rw[Array.getD_eq_getD_getElem?]at aq
     cases e:a.tmps[d]? with
     |none=>rfl
     |some v=>rw[e]at aq;simp only[Option.getD_some]at aq;subst aq;rfl
    rw[hy]
    right;exact⟨rfl,bb⟩
   ·exact bb.elim
  ·cases ae
theorem wH {o:Oper} {lo:bE} (h:lv P N ops o=some lo):∃l g,dm P o.type o.op=some l∧xo ops o.guard=some g∧gB N o.dst=true∧lo=⟨o.dst,l,g⟩:=by
 unfold lv at h
 split at h
 ·rename_i l g h1 h2
  split at h
  ·rename_i al
   simp only[Option.some.injEq]at h
   exact⟨l,g,h1,h2,al,h.symm⟩
  ·cases h
 ·cases h
theorem zS (cE:aO P aF Γ) {M:Nat} (bR:M≤N) {K:St→Prop} {Q:Exit→Act→World→Prop} (cn:∀a w,hb N aK aF R K a w→Q .normal a w):
 ∀(is:List Nat) (kW:List bE),iF (fun i lo=>∃o,ops[i]? =some o∧lv P M ops o=some lo) is kW→
 ∀{σ:St} {a:Act} {w:World} {rd:Mem} {β:bC},a8 N aK aF R σ a w rd β→fA Γ K kW σ→wpOps P ops Q is a w
 |[],_,h=>fun ao ad=>by
  cases h
  exact cn _ _ ⟨_,_,_,ad,ao⟩
 |i::is,_,h=>fun ao ad=>by
  cases h with
  |cons hi aq=>
   obtain⟨o,bh,tG⟩:=hi
   obtain⟨l,g,h1,h2,al,rfl⟩:=wH tG
   simp only[fA]at ad
   simp only[wpOps,bh]
   have aC:=zR bR al
   rcases zJ ao h2 ad with ⟨hw,ad⟩|⟨hw,ad⟩
   ·rw[if_pos hw]
    left
    exact Ev cE ao h1 aC ad _ _ fun σ' b2 w' rd' β' bY ct=>zS cE bR cn is _ aq ct bY
   ·rw[if_neg (by rw[hw];simp)]
    exact zS cE bR cn is _ aq (ao.put aC (by simp only[aP])) ad
theorem D3 {M:Nat} :∀{os:List Oper} {kW:List bE},pz P M ops os=some kW→iF (fun o lo=>lv P M ops o=some lo) os kW
 |[],_,h=>by simp only[pz,Option.some.injEq]at h;subst h;exact .nil
 |o::os,_,h=>by
  simp only[pz]at h
  split at h
  ·rename_i x y h1 h2
   simp only[Option.some.injEq]at h;subst h
   exact .cons h1 (D3 h2)
  ·cases h
theorem Lz {α gX:Type} {r:α→gX→Prop} :∀{xs:List α} {ax:List gX} (k:Nat) {all:List α},iF r xs ax→(∀j x,xs[j]? =some x→all[k+j]? =some x)→
 iF (fun i y=>∃x,all[i]? =some x∧r x y) (List.range' k xs.length) ax
 |_,_,k,_,.nil,_=> .nil
 |x::xs,y::ax,k,all,.cons h t,H=>by
  rw[List.length_cons,List.range'_succ]
  refine .cons ⟨x,by simpa using H 0 x rfl,h⟩ (Lz (k+1) t fun j z az=> ?_)
  have:=H (j+1) z (by simpa using az)
  rw[show k+1+j=k+(j+1)by omega];exact this
theorem wD {M:Nat} {kW:List bE} (h:pz P M ops ops.toList=some kW):iF (fun i lo=>∃o,ops[i]? =some o∧lv P M ops o=some lo) (List.range ops.size) kW:=by
 have:=Lz 0 (all:=ops.toList) (D3 h) (fun j x az=>by simpa using az)
 rw[List.range_eq_range']
 simpa using this
end
end RV
namespace RV
open Go Go.RowKit
structure bm (T:(ag→Prop)→Prop):Prop where
 mono:∀K ei:ag→Prop,(∀v,K v→ei v)→T K→T ei
 one:∀K,T K→∃v,T (fun u=>u=v)∧K v
theorem bm.leaf (v:ag):bm fun K=>K v:=⟨fun _ _ h k=>h _ k,fun _ k=>⟨v,rfl,k⟩⟩
theorem bm.no:bm fun _=>False:=⟨fun _ _ _ k=>k,fun _ k=>k.elim⟩
theorem bm.and {p:Prop} {T:(ag→Prop)→Prop} (h:bm T):bm fun K=>p∧T K:=
 ⟨fun K ei ad k=>⟨k.1,h.mono K ei ad k.2⟩,fun K k=>by obtain⟨v,h1,h2⟩:=h.one K k.2;exact⟨v,⟨k.1,h1⟩,h2⟩⟩
theorem z5 (k:IntKind) (z:Int):bm (arith k z):=by
 cases k<;>first|exact bm.leaf _|exact bm.and (bm.leaf _)
theorem abT (op:BinOp) (k:IntKind) (x y:Int):bm (s4 op k x y):=by
 cases op<;>first|exact z5 _ _|exact bm.and (z5 _ _)|exact bm.leaf _|exact bm.and (bm.leaf _)
theorem abU (op:BinOp) (x y:Nat):bm (s5 op x y):=by
 cases op<;>first|exact bm.leaf _|exact bm.no
theorem E6 (o:Option ag):bm fun K=>match o with|some v=>K v|none=>False:=by
 cases o with
 |none=>exact bm.no
 |some v=>exact bm.leaf v
theorem abV (σ:St) (n:Nat) (g:Bool) (v:ag):bm (iA σ n g v):=by
 cases v with
 |d x=>
  cases x with
  |ptr cs=>cases g with
   |true=>exact bm.and (bm.leaf _)
   |false=>cases cs with
    |nil=>exact bm.no
    |cons d ds=>exact bm.leaf _
  |_=>exact bm.no
 |box i off=>
  show bm fun K=>iA σ n g (.box i off) K
  simp only[iA]
  cases σ.aw i with
  |none=>exact bm.no
  |some b=>cases b with|mk f e c=>cases c with
   |cells cs=>cases g with
    |true=>exact bm.and (bm.leaf _)
    |false=>exact E6 _
   |_=>exact bm.no
 |dr i j off=>
  show bm fun K=>iA σ n g (.dr i j off) K
  simp only[iA]
  cases σ.aw i with
  |none=>exact bm.no
  |some b=>cases b with|mk f e c=>cases c with
   |cells cs=>exact bm.no
   |ints k xs=>exact bm.and (bm.and (bm.and (bm.leaf _)))
   |flts xs=>exact bm.and (bm.and (bm.and (bm.leaf _)))
   |recs sz xs=>cases g with
    |true=>exact bm.and (bm.and (bm.leaf _))
    |false=>
     refine bm.and ?_
     simp only[Bool.false_eq_true,if_false]
     cases (xs.getD j [])[off]? with
     |none=>exact bm.no
     |some d=>exact bm.leaf _
 |_=>exact bm.no
theorem acF (v:ag):bm (ve v):=by
 cases v with
 |d x=>cases x<;>first|exact bm.leaf _|exact bm.no
 |own i lo n=>exact bm.leaf _
 |_=>exact bm.no
theorem abd (σ:St) (sz:Nat) (v:ag) (i:Int):bm (ov σ sz v i):=by
 cases v with
 |d x=>cases x<;>first|exact bm.and (bm.and (bm.and (bm.leaf _)))|exact bm.no
 |own i lo n=>exact bm.and (bm.and (bm.and (bm.leaf _)))
 |_=>exact bm.no
theorem z6 (d:Int) (v:Option ag) {T:Int→(ag→Prop)→Prop} (h:∀i,bm (T i)):bm fun K=>bound d v fun i=>T i K:=by
 cases v with
 |none=>exact h d
 |some v=>cases v with
  |d x=>cases x<;>first|exact h _|exact bm.no
  |_=>exact bm.no
theorem acG (σ:St) (sz:Nat) (v:ag) (lo hi:Option ag):bm (lD σ sz v lo hi):=by
 show bm fun K=>lD σ sz v lo hi K
 cases v with
 |d x=>cases x<;>simp only[lD]<;>first|exact bm.no|(refine z6 _ _ fun l=>z6 _ _ fun h=> ?_;exact bm.and (bm.and (bm.and (bm.and (bm.leaf _)))))
 |own i lo n=>simp only[lD];refine z6 _ _ fun l=>z6 _ _ fun h=> ?_;exact bm.and (bm.and (bm.and (bm.and (bm.leaf _))))
 |_=>exact bm.no
theorem abW (t:Bool) (x y:ag):bm fun K=>(t=true→K x)∧(t=false→K y):=by
 cases t
 ·exact⟨fun K ei h k=>⟨fun e=>Bool.noConfusion e,fun e=>h _ (k.2 e)⟩,fun K k=>⟨y,⟨fun e=>Bool.noConfusion e,fun _=>rfl⟩,k.2 rfl⟩⟩
 ·exact⟨fun K ei h k=>⟨fun e=>h _ (k.1 e),fun e=>Bool.noConfusion e⟩,fun K k=>⟨x,⟨fun _=>rfl,fun e=>Bool.noConfusion e⟩,k.1 rfl⟩⟩
theorem abX (C:fL) (σ:St) (vs:List ag):bm fun K=>oE C σ K vs:=by
 simp only[oE]
 split
 ·exact bm.and (bm.and (bm.leaf _))
 ·exact bm.no
theorem EM (Γ:Env) (σ:St) (l:bo):bm fun K=>bj Γ σ K l:=by
 cases l with
 |bx x=>exact bm.leaf _
 |pick c x y=>
  simp only[bj]
  generalize σ.aT c=X
  cases X with
  |d z=>cases z<;>first|exact abW _ _ _|exact bm.no
  |_=>exact bm.no
 |load n g x=>exact abV _ _ _ _
 |pF x=>
  simp only[bj]
  generalize σ.aT x=X
  cases X with
  |d z=>cases z<;>first|exact bm.leaf _|exact bm.no
  |_=>first|exact bm.leaf _|exact bm.no
 |bin op x y=>
  simp only[bj]
  generalize σ.aT x=X
  generalize σ.aT y=Y
  split
  ·exact bm.and (abT _ _ _ _)
  ·exact abU _ _ _
  ·exact bm.no
 |oN ne x y=>
  simp only[bj]
  generalize (σ.aT x).pair=X
  generalize (σ.aT y).pair=Y
  split
  ·exact bm.leaf _
  ·exact bm.no
 |kL ne x y=>
  simp only[bj]
  generalize σ.aT x=X
  generalize σ.aT y=Y
  split
  ·exact bm.leaf _
  ·exact bm.no
 |un op x=>
  simp only[bj]
  generalize σ.aT x=X
  split
  ·exact bm.leaf _
  ·exact z5 _ _
  ·exact bm.leaf _
  ·exact bm.no
 |conv k x=>
  simp only[bj]
  generalize σ.aT x=X
  split
  ·exact z5 _ _
  ·exact bm.no
 |oA x=>
  simp only[bj]
  generalize σ.aT x=X
  split
  ·exact bm.leaf _
  ·exact bm.leaf _
  ·exact bm.no
 |dA off x=>
  simp only[bj]
  generalize σ.aT x=X
  split<;>first|exact bm.leaf _|exact bm.no
 |rr off n g x=>
  simp only[bj]
  generalize σ.aT x=X
  split
  ·cases g with
   |true=>exact bm.and (bm.leaf _)
   |false=>exact E6 _
  ·exact bm.no
 |q0 sz x i=>
  simp only[bj]
  generalize σ.aT i=X
  split
  ·exact abd _ _ _ _
  ·exact bm.no
 |q1 len sz x i=>
  simp only[bj]
  generalize σ.aT x=X
  generalize σ.aT i=Y
  split
  ·exact bm.and (bm.and (bm.leaf _))
  ·exact bm.and (bm.and (bm.leaf _))
  ·exact bm.no
 |idx len n g x i=>
  simp only[bj]
  generalize σ.aT x=X
  generalize σ.aT i=Y
  split
  ·cases g with
   |true=>exact bm.and (bm.and (bm.and (bm.leaf _)))
   |false=>exact bm.and (bm.and (E6 _))
  ·exact bm.no
 |lC i x=>
  simp only[bj]
  generalize σ.aT x=X
  split
  ·split
   ·exact bm.leaf _
   ·exact bm.no
  ·exact bm.no
 |len x=>exact acF _
 |jW x y=>
  simp only[bj]
  generalize σ.aT x=X
  generalize σ.aT y=Y
  split
  ·exact bm.leaf _
  ·exact bm.no
 |sc x y=>
  simp only[bj]
  generalize σ.aT x=X
  generalize σ.aT y=Y
  split
  ·exact bm.leaf _
  ·exact bm.no
 |ru sz x lo hi=>exact acG _ _ _ _ _
 |build zero parts=>
  simp only[bj]
  split
  ·exact bm.leaf _
  ·exact bm.no
 |hM ek parts=>
  simp only[bj]
  refine bm.and ?_
  split
  ·split
   ·exact bm.leaf _
   ·exact bm.no
  ·exact bm.no
 |q6 f x y=>
  simp only[bj]
  split
  ·split
   ·exact bm.leaf _
   ·exact bm.no
  ·exact bm.leaf _
 |call f as=>
  simp only[bj]
  split
  ·exact bm.and (bm.and (bm.leaf _))
  ·exact bm.no
 |gj x as=>
  simp only[bj]
  split
  ·split
   ·exact bm.and (bm.and (bm.leaf _))
   ·exact bm.no
  ·split
   ·exact abX _ _ _
   ·exact bm.no
  ·exact bm.no
 |_=>exact bm.no
theorem Ag (σ:St) (l:bo) (i:Nat) (K:ag→b1→Prop):made σ l K i↔∃v b,made σ l (fun ej fD=>ej=v∧fD=b) i∧K v b:=by
 cases l with
 |kT ek z n=>
  simp only[made]
  generalize σ.aT n=X
  cases X with
  |d x=>cases x with
   |int k m=>
    simp only
    cases ni ek z m.toNat with
    |none=>simp
    |some c=>constructor
             ·rintro⟨h1,h2,al⟩;exact⟨_,_,⟨h1,h2,rfl,rfl⟩,al⟩
             ·rintro⟨_,_,⟨h1,h2,rfl,rfl⟩,al⟩;exact⟨h1,h2,al⟩
   |_=>simp
  |_=>simp
 |alloc z=>simp only[made];constructor
           ·intro h;exact⟨_,_,⟨rfl,rfl⟩,h⟩
           ·rintro⟨_,_,⟨rfl,rfl⟩,h⟩;exact h
 |nil ek=>simp only[made];constructor
          ·intro h;exact⟨_,_,⟨rfl,rfl⟩,h⟩
          ·rintro⟨_,_,⟨rfl,rfl⟩,h⟩;exact h
 |box x=>simp only[made];constructor
         ·rintro⟨h1,h⟩;exact⟨_,_,⟨h1,rfl,rfl⟩,h⟩
         ·rintro⟨_,_,⟨h1,rfl,rfl⟩,h⟩;exact⟨h1,h⟩
 |_=>simp[made]
theorem Mt (σ:St) (n:Nat) (x y:bk) (K:Nat→b1→Prop):stored σ n x y K↔∃i b,stored σ n x y (fun jX fD=>jX=i∧fD=b)∧K i b:=by
 cases x with
 |c d=>simp[stored]
 |t p=>
  simp only[stored]
  generalize σ.aT (.t p)=X
  cases X with
  |box i off=>
   simp only
   generalize σ.aw i=B
   rcases B with _|⟨f,e,c⟩
   ·simp
   ·cases f with
    |true=>simp
    |false=>
     simp only
     cases lu c off (σ.aT y).cells with
     |none=>simp
     |some c'=>
      constructor
      ·rintro⟨h1,h2,al,aE⟩;exact⟨_,_,⟨h1,h2,al,rfl,rfl⟩,aE⟩
      ·rintro⟨_,_,⟨h1,h2,al,rfl,rfl⟩,aE⟩;exact⟨h1,h2,al,aE⟩
  |_=>simp
theorem Z4 (σ:St) (n:Nat) (x y:bk) (K:Nat→b1→Prop):om σ n x y K↔∃i b,om σ n x y (fun jX fD=>jX=i∧fD=b)∧K i b:=by
 simp only[om]
 generalize σ.aT x=X
 cases X with
 |box i off=>
  simp only
  generalize σ.aw i=B
  rcases B with _|⟨f,e,c⟩
  ·simp
  ·cases f with
   |true=>simp
   |false=>
    simp only
    cases lu c off (σ.aT y).cells with
    |none=>simp
    |some c'=>
     constructor
     ·rintro⟨h2,al,aE⟩;exact⟨_,_,⟨h2,al,rfl,rfl⟩,aE⟩
     ·rintro⟨_,_,⟨h2,al,rfl,rfl⟩,aE⟩;exact⟨h2,al,aE⟩
 |dr i j off=>
  simp only
  generalize σ.aw i=B
  rcases B with _|⟨f,e,c⟩
  ·simp
  ·cases f with
   |true=>simp
   |false=>
    simp only
    cases nj c j off (σ.aT y).cells with
    |none=>simp
    |some c'=>
     constructor
     ·rintro⟨h2,al,aE⟩;exact⟨_,_,⟨h2,al,rfl,rfl⟩,aE⟩
     ·rintro⟨_,_,⟨h2,al,rfl,rfl⟩,aE⟩;exact⟨h2,al,aE⟩
 |_=>simp
theorem wI (bU:List Nat) (σ:St) (n:Nat) (x y:bk) (K:Nat→b1→Prop):nf bU σ n x y K↔∃i b,nf bU σ n x y (fun jX fD=>jX=i∧fD=b)∧K i b:=by
 cases bU with
 |nil=>exact Z4 ..
 |cons _ _=>exact Mt ..
end RV
namespace RV
open Go Go.RowKit
structure jj (σ σ':St) (xs:List bk):Prop where
 aT:∀x∈xs,σ'.aT x=σ.aT x
 aw:∀j,ag.cC j (ch σ xs)=true→σ'.aw j=σ.aw j
section
variable {σ σ':St} {Γ:Env} {K:ag→Prop}
theorem Ah {j:Nat} {v:ag} :∀{vs:List ag},v∈vs→v.has j=true→ag.cC j vs=true
 |[],h,_=>by cases h
 |x::xs,h,az=>by
  simp only[ag.cC,Bool.or_eq_true]
  rcases List.mem_cons.1 h with rfl|h
  ·exact .inl az
  ·exact .inr (Ah h az)
theorem Nx {j:Nat} :∀{vs us:List ag},(∀v∈vs,v∈us)→ag.cC j vs=true→ag.cC j us=true
 |[],_,_,h=>by simp[ag.cC]at h
 |x::xs,us,ay,h=>by
  simp only[ag.cC,Bool.or_eq_true]at h
  rcases h with h|h
  ·exact Ah (ay x (by simp)) h
  ·exact Nx (fun v aA=>ay v (by simp[aA])) h
theorem jj.one {xs:List bk} (h:jj σ σ' xs) {x:bk} (ah:x∈xs):∀j,(σ.aT x).has j=true→σ'.aw j=σ.aw j:=
 fun j az=>h.aw j (Ah (List.mem_map.2 ⟨x,ah,rfl⟩) az)
theorem jj.sub {xs ax:List bk} (h:jj σ σ' xs) (ay:∀y∈ax,y∈xs):jj σ σ' ax:=
 ⟨fun x ah=>h.aT x (ay x ah),fun j az=>h.aw j (Nx (fun v aA=>by
  obtain⟨y,hy,rfl⟩:=List.mem_map.1 aA
  exact List.mem_map.2 ⟨y,ay y hy,rfl⟩) az)⟩
theorem jj.ch {xs:List bk} (h:jj σ σ' xs):ch σ' xs=ch σ xs:=List.map_congr_left h.aT
mutual
theorem toD_local:∀(v:ag),(∀j,v.has j=true→σ'.aw j=σ.aw j)→toD σ' v=toD σ v
 | .d _,_=>rfl
 | .agg cs,h=>by simp only[toD,toDs_local cs (fun j az=>h j (by simpa [ag.has]using az))]
 | .own i lo n,h=>by simp only[toD,h i (by simp[ag.has])]
 | .box i 0,h=>by simp only[toD,h i (by simp[ag.has])]
 | .box i (n+1),_=>rfl
 | .dr _ _ _,_=>rfl
 | .c0 f x y,h=>by simp only[toD,toDs_local x (fun j az=>h j (by simp[ag.has,az])),toDs_local y (fun j az=>h j (by simp[ag.has,az]))]
 | .c6 _,_=>rfl
 | .c1,_=>rfl
 | .any,_=>rfl
theorem toDs_local:∀(vs:List ag),(∀j,ag.cC j vs=true→σ'.aw j=σ.aw j)→toDs σ' vs=toDs σ vs
 |[],_=>rfl
 |v::vs,h=>by simp only[toDs,toD_local v (fun j az=>h j (by simp[ag.cC,az])),toDs_local vs (fun j az=>h j (by simp[ag.cC,az]))]
end
theorem aav {v:ag} (h:∀j,v.has j=true→σ'.aw j=σ.aw j) (n:Nat) (g:Bool):iA σ' n g v K=iA σ n g v K:=by
 cases v with
 |box i off=>simp only[iA,h i (by simp[ag.has])]
 |dr i j off=>simp only[iA,h i (by simp[ag.has])]
 |d x=>cases x<;>rfl
 |_=>rfl
theorem Z5 {v:ag} (h:∀j,v.has j=true→σ'.aw j=σ.aw j) (sz:Nat) (i:Int):ov σ' sz v i K=ov σ sz v i K:=by
 cases v with
 |own b lo n=>simp only[ov,h b (by simp[ag.has])]
 |d x=>cases x<;>rfl
 |_=>rfl
theorem abe {v:ag} (h:∀j,v.has j=true→σ'.aw j=σ.aw j) (sz:Nat) (lo hi:Option ag):lD σ' sz v lo hi K=lD σ sz v lo hi K:=by
 cases v with
 |own b l n=>simp only[lD,h b (by simp[ag.has])]
 |d x=>cases x<;>rfl
 |_=>rfl
theorem LQ:∀{l:List Nat} {i:Nat},i∈distinct l→i∈l
 |[],_,h=>by cases h
 |x::xs,i,h=>by
  simp only[distinct,List.mem_cons,List.mem_filter]at h⊢
  rcases h with h|h
  ·exact .inl h
  ·exact .inr (LQ h.1)
mutual
theorem acH:∀(v:ag) (i:Nat),i∈v.ids→v.has i=true
 | .d _,i,h=>by simp[ag.ids]at h
 | .agg cs,i,h=>by simp only[ag.ids]at h;simp only[ag.has];exact w1 cs i h
 | .box j _,i,h=>by simp only[ag.ids,List.mem_singleton]at h;simp[ag.has,h]
 | .own j _ _,i,h=>by simp only[ag.ids,List.mem_singleton]at h;simp[ag.has,h]
 | .dr j _ _,i,h=>by simp only[ag.ids,List.mem_singleton]at h;simp[ag.has,h]
 | .c0 _ x y,i,h=>by
   simp only[ag.ids,List.mem_append]at h
   simp only[ag.has,Bool.or_eq_true]
   rcases h with h|h
   ·exact .inl (w1 x i h)
   ·exact .inr (w1 y i h)
 | .c6 _,i,h=>by simp[ag.ids]at h
 | .c1,i,h=>by simp[ag.ids]at h
 | .any,i,h=>by simp[ag.ids]at h
theorem w1:∀(vs:List ag) (i:Nat),i∈ag.gE vs→ag.cC i vs=true
 |[],i,h=>by simp[ag.gE]at h
 |v::vs,i,h=>by
  simp only[ag.gE,List.mem_append]at h
  simp only[ag.cC,Bool.or_eq_true]
  rcases h with h|h
  ·exact .inl (acH v i h)
  ·exact .inr (w1 vs i h)
end
theorem LA {p:Nat→Bool} :∀(is:List Nat),(∀i∈is,σ'.aw i=σ.aw i)→contents σ' p is=contents σ p is
 |[],_=>rfl
 |i::r,h=>by
  simp only[contents,h i (by simp),LA r (fun j az=>h j (by simp[az]))]
theorem aaw {l:bo} (h:jj σ σ' l.ops):bj Γ σ' K l=bj Γ σ K l:=by
 cases l with
 |bx x=>simp only[bj,h.aT x (by simp[bo.ops])]
 |pick c x y=>simp only[bj,h.aT c (by simp[bo.ops]),h.aT x (by simp[bo.ops]),h.aT y (by simp[bo.ops])]
 |load n g x=>simp only[bj,h.aT x (by simp[bo.ops])];exact aav (h.one (by simp[bo.ops])) _ _
 |pF x=>simp only[bj,h.aT x (by simp[bo.ops])]
 |bin op x y=>simp only[bj,h.aT x (by simp[bo.ops]),h.aT y (by simp[bo.ops])]
 |oN ne x y=>simp only[bj,h.aT x (by simp[bo.ops]),h.aT y (by simp[bo.ops])]
 |kL ne x y=>simp only[bj,h.aT x (by simp[bo.ops]),h.aT y (by simp[bo.ops])]
 |un op x=>simp only[bj,h.aT x (by simp[bo.ops])]
 |conv k x=>simp only[bj,h.aT x (by simp[bo.ops])]
 |oA x=>simp only[bj,h.aT x (by simp[bo.ops])]
 |dA off x=>simp only[bj,h.aT x (by simp[bo.ops])]
 |rr off n g x=>simp only[bj,h.aT x (by simp[bo.ops])]
 |q0 sz x i=>
  simp only[bj,h.aT x (by simp[bo.ops]),h.aT i (by simp[bo.ops])]
  split
  ·exact Z5 (h.one (by simp[bo.ops])) _ _
  ·rfl
 |q1 len sz x i=>simp only[bj,h.aT x (by simp[bo.ops]),h.aT i (by simp[bo.ops])]
 |idx len n g x i=>simp only[bj,h.aT x (by simp[bo.ops]),h.aT i (by simp[bo.ops])]
 |lC i x=>simp only[bj,h.aT x (by simp[bo.ops])]
 |len x=>simp only[bj,h.aT x (by simp[bo.ops])]
 |jW x y=>simp only[bj,h.aT x (by simp[bo.ops]),h.aT y (by simp[bo.ops])]
 |sc x y=>simp only[bj,h.aT x (by simp[bo.ops]),h.aT y (by simp[bo.ops])]
 |ru sz x lo hi=>
  have jm:lo.map σ'.aT=lo.map σ.aT:=by
   cases lo with
   |none=>rfl
   |some y=>simp only[Option.map_some,h.aT y (by simp[bo.ops])]
  have lM:hi.map σ'.aT=hi.map σ.aT:=by
   cases hi with
   |none=>rfl
   |some y=>simp only[Option.map_some,h.aT y (by simp[bo.ops])]
  simp only[bj,h.aT x (by simp[bo.ops]),jm,lM]
  exact abe (h.one (by simp[bo.ops])) _ _ _
 |build zero parts=>
  have:(parts.map fun p=>(p.1,p.2.1,σ'.aT p.2.2))=parts.map fun p=>(p.1,p.2.1,σ.aT p.2.2):=List.map_congr_left fun p aS=>by
   rw[h.aT p.2.2 (List.mem_map.2 ⟨p,aS,rfl⟩)]
  simp only[bj,this]
 |hM ek parts=>
  have ar:=toDs_local (σ:=σ) (σ':=σ') (ch σ parts) h.aw
  have aB:ch σ' parts=ch σ parts:=h.ch
  simp only[bj,aB,ar]
 |q6 f x y=>
  have h1:jj σ σ' x:=h.sub (fun z bg=>by simp[bo.ops,bg])
  have h2:jj σ σ' y:=h.sub (fun z bg=>by simp[bo.ops,bg])
  simp only[bj,h1.ch,h2.ch,toDs_local (σ:=σ) (σ':=σ') (ch σ x) h1.aw,toDs_local (σ:=σ) (σ':=σ') (ch σ y) h2.aw]
 |call f as=>
  have aB:ch σ' as=ch σ as:=h.ch
  simp only[bj,aB,toDs_local (σ:=σ) (σ':=σ') (ch σ as) h.aw]
 |gj x as=>
  have h2:jj σ σ' as:=h.sub (fun z bg=>by simp[bo.ops,bg])
  have ar:∀f u v,σ.aT x= .c0 f u v→∀C:fL,oE C σ' K (u++ch σ as++v)=oE C σ K (u++ch σ as++v):=by
   intro f u v e C
   have ao:contents σ' (fun _=>false) (distinct (ag.gE (u++ch σ as++v)))=contents σ (fun _=>false) (distinct (ag.gE (u++ch σ as++v))):=by
    refine LA _ fun i hi=> ?_
    have hi:=w1 _ i (LQ hi)
    rw[D1,D1]at hi
    simp only[Bool.or_eq_true]at hi
    rcases hi with (hi|hi)|hi
    ·exact h.aw i (by simp only[bo.ops,ch,List.map_cons,ag.cC,e,ag.has,hi,Bool.true_or])
    ·exact h.aw i (by simp only[bo.ops,ch,List.map_cons,ag.cC];rw[show ag.cC i (List.map σ.aT as)=true from hi,Bool.or_true])
    ·exact h.aw i (by simp only[bo.ops,ch,List.map_cons,ag.cC,e,ag.has,hi,Bool.true_or,Bool.or_true])
   simp only[oE,ao]
  simp only[bj,h.aT x (by simp[bo.ops]),h2.ch,toDs_local (σ:=σ) (σ':=σ') (ch σ as) h2.aw]
  split
  ·rfl
  ·rename_i f u v e
   split
   ·exact ar f u v e _
   ·rfl
  ·rfl
 |_=>rfl
theorem aax {l:bo} (h:jj σ σ' l.ops) {K:ag→b1→Prop} {i:Nat} :made σ' l K i=made σ l K i:=by
 cases l with
 |box x=>simp only[made,h.aT x (by simp[bo.ops])]
 |kT ek z n=>simp only[made,h.aT n (by simp[bo.ops])]
 |_=>rfl
theorem ZJ {n:Nat} {x y:bk} (h:jj σ σ' [x,y]) {K:Nat→b1→Prop} :stored σ' n x y K=stored σ n x y K:=by
 cases x with
 |c d=>rfl
 |t p=>
  have h1:=h.aT (.t p) (by simp)
  have h2:=h.aT y (by simp)
  have al:=h.one (x:= .t p) (by simp)
  simp only[stored,h1,h2]
  generalize σ.aT (.t p)=X at al
  cases X with
  |box i off=>simp only[al i (by simp[ag.has])]
  |_=>rfl
theorem ZA {n:Nat} {x y:bk} (h:jj σ σ' [x,y]) {K:Nat→b1→Prop} :om σ' n x y K=om σ n x y K:=by
 have h1:=h.aT x (by simp)
 have h2:=h.aT y (by simp)
 have al:=h.one (x:=x) (by simp)
 simp only[om,h1,h2]
 generalize σ.aT x=X at al
 cases X with
 |box i off=>simp only[al i (by simp[ag.has])]
 |dr i j off=>simp only[al i (by simp[ag.has])]
 |_=>rfl
theorem ZB {bU:List Nat} {n:Nat} {x y:bk} (h:jj σ σ' [x,y]) {K:Nat→b1→Prop} :nf bU σ' n x y K=nf bU σ n x y K:=by
 cases bU with
 |nil=>exact ZA h
 |cons _ _=>exact ZJ h
end
end RV
namespace RV
open Go Go.RowKit
def kO (σ:St) (g:Option (Nat×Bool)):Option Bool:=
 match g with
 |none=>some true
 |some (t,w)=>match σ.af t with
  | .d (.bool b)=>some (b==w)
  | .c1=>some false
  |_=>none
def app (b4:Option (Nat×b1)) (dst:Option Nat) (v:ag) (σ:St):St:=
 (match b4 with|some (i,b)=>σ.dK i b|none=>σ).put dst v
def oG (Γ:Env) (dst:Option Nat) (op:bo) (σ:St) (b4:Option (Nat×b1)) (v:ag):Prop:=
 if op.makes=true then u3 dst fun i=>σ.aw i=none∧made σ op (fun ej b=>ej=v∧b4=some (i,b)) i else b4=none∧bj Γ σ (fun u=>u=v) op
def rH (Γ:Env) (o:bE) (bU:List Nat) (σ:St) (b4:Option (Nat×b1)) (v:ag):Prop:=
 match o.op with
 | .store n a x=>o.dst=none∧v= .c1∧nf bU σ n a x fun i b=>b4=some (i,b)
 |op=>oG Γ o.dst op σ b4 v
def lz (Γ:Env) (o:bE) (bU:List Nat) (σ:St) (b4:Option (Nat×b1)) (v:ag):Prop:=
 match kO σ o.guard with
 |some true=>sI bU (ch σ o.op.ops)=true∧rH Γ o bU σ b4 v
 |some false=>b4=none∧v= .c1
 |none=>False
section
variable {Γ:Env} {σ σ':St} {K:St→Prop}
theorem qH (g:Option (Nat×Bool)) (yes no:Prop):guarded σ g yes no↔(kO σ g=some true∧yes)∨(kO σ g=some false∧no):=by
 cases g with
 |none=>simp[guarded,kO]
 |some o5=>
  obtain⟨t,w⟩:=o5
  simp only[guarded,kO]
  generalize σ.af t=X
  cases X with
  |d x=>cases x with
   |bool b=>cases b<;>cases w<;>simp
   |_=>simp
  |_=>simp
theorem MR (dst:Option Nat) (op:bo):lE Γ dst op σ K↔∃b4 v,oG Γ dst op σ b4 v∧K (app b4 dst v σ):=by
 unfold lE oG
 by_cases hm:op.makes=true
 ·simp only[hm,if_true]
  cases dst with
  |none=>simp[u3]
  |some i=>
   simp only[u3]
   rw[Ag]
   constructor
   ·rintro⟨h1,v,b,h2,al⟩
    refine⟨some (i,b),v,⟨h1,?_⟩,al⟩
    rw[Ag]
    exact⟨v,b,h2,rfl,rfl⟩
   ·rintro⟨b4,v,⟨h1,h2⟩,al⟩
    rw[Ag]at h2
    obtain⟨ej,b,h2,rfl,rfl⟩:=h2
    exact⟨h1,_,b,h2,al⟩
 ·simp only[hm,Bool.false_eq_true,if_false]
  constructor
  ·intro h
   obtain⟨v,h1,h2⟩:=(EM Γ σ op).one _ h
   exact⟨none,v,⟨rfl,h1⟩,h2⟩
  ·rintro⟨b4,v,⟨rfl,h1⟩,h2⟩
   exact(EM Γ σ op).mono _ _ (fun u hu=>by subst hu;exact h2) h1
def uZ (Γ:Env) (o:bE) (bU:List Nat):Prop:=match o.op,bU with
 | .call f _,[]=>Γ.mt f=none
 |_,_=>True
theorem abY {o:bE} {bU:List Nat} (h:o.hX=true):uZ Γ o bU:=by
 cases o with|mk dst op g=>
 cases op<;>first|trivial|cases h
theorem Ny {o:bE} {bU:List Nat} (h:o.sK=true→bU≠[]):uZ Γ o bU:=by
 cases o with|mk dst op g=>
 cases op with
 |call f as=>
  cases bU with
  |nil=>exact absurd rfl (h rfl)
  |cons _ _=>trivial
 |_=>trivial
theorem acI (o:bE) (bU:List Nat) (aS:uZ Γ o bU):mF Γ o bU σ K↔sI bU (ch σ o.op.ops)=true∧∃b4 v,rH Γ o bU σ b4 v∧K (app b4 o.dst v σ):=by
 unfold mF
 refine and_congr_right fun _=> ?_
 cases o with|mk dst op g=>
 cases op with
 |store n a x=>
  simp only[rH]
  constructor
  ·rintro⟨rfl,h⟩
   rw[wI]at h
   obtain⟨i,b,h1,h2⟩:=h
   refine⟨some (i,b),.c1,⟨rfl,rfl,?_⟩,h2⟩
   rw[wI]
   exact⟨i,b,h1,rfl⟩
  ·rintro⟨b4,v,⟨rfl,rfl,h⟩,h2⟩
   rw[wI]at h
   obtain⟨i,b,h1,rfl⟩:=h
   refine⟨rfl,?_⟩
   rw[wI]
   exact⟨i,b,h1,h2⟩
 |call f as=>
  have e:q3 Γ dst bU σ K f as=lE Γ dst (.call f as) σ K:=by
   unfold q3
   cases bU with
   |nil=>simp only[uZ]at aS;rw[aS]
   |cons _ _=>rfl
  simp only[e]
  exact MR _ _
 |_=>exact MR _ _
theorem mf (o:bE) (bU:List Nat) (r:List (bE×List Nat)) (aS:uZ Γ o bU):cG Γ K ((o,bU)::r) σ↔∃b4 v,lz Γ o bU σ b4 v∧cG Γ K r (app b4 o.dst v σ):=by
 simp only[cG]
 rw[qH,acI _ _ aS]
 unfold lz
 constructor
 ·rintro(⟨h1,h2,b4,v,al,aE⟩|⟨h1,h2⟩)
  ·exact⟨b4,v,by rw[h1];exact⟨h2,al⟩,aE⟩
  ·exact⟨none,.c1,by rw[h1];exact⟨rfl,rfl⟩,h2⟩
 ·rintro⟨b4,v,h1,h2⟩
  split at h1
  ·rename_i e
   exact .inl ⟨e,h1.1,b4,v,h1.2,h2⟩
  ·rename_i e
   obtain⟨rfl,rfl⟩:=h1
   exact .inr ⟨e,h2⟩
  ·exact h1.elim
theorem wJ {dst:Option Nat} {op:bo} {i:Nat} {b:b1} {v:ag} (h:oG Γ dst op σ (some (i,b)) v):op.makes=true∧dst=some i∧σ.aw i=none:=by
 unfold oG at h
 by_cases hm:op.makes=true
 ·simp only[hm,if_true]at h
  cases dst with
  |none=>exact h.elim
  |some j=>
   obtain⟨h1,h2⟩:=h
   rw[Ag]at h2
   obtain⟨_,_,_,_,al⟩:=h2
   simp only[Option.some.injEq,Prod.mk.injEq]at al
   obtain⟨rfl,_⟩:=al
   exact⟨hm,rfl,h1⟩
 ·simp only[hm,Bool.false_eq_true,if_false]at h
  cases h.1
theorem L4 {n:Nat} {a x:bk} {K:Nat→b1→Prop} (h:stored σ n a x K):∃p off,a= .t p∧σ.aT a= .box p off:=by
 cases a with
 |c d=>simp[stored]at h
 |t p=>
  simp only[stored]at h
  split at h
  ·rename_i c9 i off aS aA
   obtain⟨rfl,_⟩:=h
   simp only[bk.t.injEq]at aS
   subst aS
   exact⟨_,off,rfl,aA⟩
  ·exact h.elim
theorem aay {o:bE} {bU:List Nat} {b4:Option (Nat×b1)} {v:ag} (H2:o.sK=true→bU≠[]) (h:rH Γ o bU σ b4 v):∀i b,b4=some (i,b)→i∈o.writes:=by
 intro i b e
 subst e
 cases o with|mk dst op g=>
 cases op with
 |store n a x=>
  simp only[rH]at h
  obtain⟨rfl,rfl,h⟩:=h
  have dX:=H2 rfl
  cases bU with
  |nil=>exact absurd rfl dX
  |cons _ _=>
  simp only[nf]at h
  rw[Mt]at h
  obtain⟨jX,fD,h1,h2⟩:=h
  obtain⟨p,off,rfl,aS⟩:=L4 h1
  simp only[stored,aS]at h1
  obtain⟨_,h1⟩:=h1
  split at h1
  ·obtain⟨_,_,h1⟩:=h1
   split at h1
   ·simp only[Option.some.injEq,Prod.mk.injEq]at h2
    simp[bE.writes,h2.1,←h1.1]
   ·exact h1.elim
  ·exact h1.elim
 |alloc z=>obtain⟨_,e,_⟩:=wJ h;simp only at e;subst e;simp[bE.writes,bo.makes]
 |box z=>obtain⟨_,e,_⟩:=wJ h;simp only at e;subst e;simp[bE.writes,bo.makes]
 |kT _ _ z=>obtain⟨_,e,_⟩:=wJ h;simp only at e;subst e;simp[bE.writes,bo.makes]
 |nil z=>obtain⟨_,e,_⟩:=wJ h;simp only at e;subst e;simp[bE.writes,bo.makes]
 |_=>exact absurd (wJ h).1 (by simp[bo.makes])
structure Alike (o:bE) (bU:List Nat) (σ σ':St):Prop where
 ops:∀t,bk.t t∈o.op.ops→σ'.af t=σ.af t
 K6:∀t w,o.guard=some (t,w)→σ'.af t=σ.af t
 aw:∀j,j∉bU∨j∈o.writes→σ'.aw j=σ.aw j
theorem Alike.same {o:bE} {bU:List Nat} (h:Alike o bU σ σ') (kX:sI bU (ch σ o.op.ops)=true):jj σ σ' o.op.ops:=by
 refine⟨fun x ah=> ?_,fun j az=>h.aw j (.inl fun aH=> ?_)⟩
 ·cases x with
  |t t=>exact h.ops t ah
  |c d=>rfl
 ·simp only[sI,List.all_eq_true]at kX
  have:=kX j aH
  rw[az]at this;cases this
theorem zK {o:bE} {bU:List Nat} {b4:Option (Nat×b1)} {v:ag} (h:Alike o bU σ σ') (ay:lz Γ o bU σ b4 v):lz Γ o bU σ' b4 v:=by
 unfold lz at*
 have bb:kO σ' o.guard=kO σ o.guard:=by
  cases yi:o.guard with
  |none=>rfl
  |some o5=>simp only[kO,h.K6 o5.1 o5.2 yi]
 rw[bb]
 split at ay
 ·obtain⟨kX,ay⟩:=ay
  have sW:=h.same kX
  refine⟨by rw[sW.ch];exact kX,?_⟩
  have aey:∀{dst:Option Nat} {op:bo},jj σ σ' op.ops→(∀i,op.makes=true→dst=some i→σ'.aw i=σ.aw i)→oG Γ dst op σ b4 v→oG Γ dst op σ' b4 v:=by
   intro dst op Uk ar h1
   unfold oG at*
   by_cases hm:op.makes=true
   ·simp only[hm,if_true]at h1⊢
    cases dst with
    |none=>exact h1
    |some i=>exact⟨by rw[ar i hm rfl];exact h1.1,by rw[aax Uk];exact h1.2⟩
   ·simp only[hm,Bool.false_eq_true,if_false]at h1⊢
    exact⟨h1.1,by rw[aaw Uk];exact h1.2⟩
  have hZ:∀i,o.op.makes=true→o.dst=some i→σ'.aw i=σ.aw i:=fun i hm aC=>h.aw i (.inr (by
   cases o with|mk dst op g=>
   simp only at aC hm
   subst aC
   cases op<;>first|(simp[bE.writes,bo.makes];done)|(simp[bo.makes]at hm;done)))
  cases o with|mk dst op g=>
  cases op with
  |store n a x=>
   simp only[rH]at ay⊢
   exact⟨ay.1,ay.2.1,by rw[ZB (sW.sub (by simp[bo.ops]))];exact ay.2.2⟩
  |_=>exact aey sW hZ ay
 ·exact ay
 ·exact ay.elim
theorem LR {o:bE} {bU:List Nat} {b4:Option (Nat×b1)} {v:ag} (H2:o.sK=true→bU≠[]) (h:lz Γ o bU σ b4 v):∀i b,b4=some (i,b)→i∈o.writes:=by
 unfold lz at h
 split at h
 ·exact aay H2 h.2
 ·intro i b e;rw[h.1]at e;cases e
 ·exact h.elim
theorem kH (b4:Option (Nat×b1)) (dst:Option Nat) (v:ag) (σ:St) (t:Nat) (h:dst≠some t):(app b4 dst v σ).af t=σ.af t:=by
 unfold app
 rw[eS,if_neg h]
 cases b4<;>rfl
theorem nt (b4:Option (Nat×b1)) (dst:Option Nat) (v:ag) (σ:St) (j:Nat):(app b4 dst v σ).aw j=match b4 with|some (i,b)=>if j=i then some b else σ.aw j|none=>σ.aw j:=by
 unfold app
 rw[j6]
 cases b4<;>rfl
theorem abf {b4:Option (Nat×b1)} {dst:Option Nat} {v:ag} {σ:St} {j:Nat} (h:∀i b,b4=some (i,b)→j≠i):(app b4 dst v σ).aw j=σ.aw j:=by
 rw[nt]
 cases b4 with
 |none=>rfl
 |some uj=>simp only;rw[if_neg (h uj.1 uj.2 rfl)]
theorem me {o:bE} {t:Nat} (h:bk.t t∈o.op.ops):t∈o.kJ:=by
 simp only[bE.kJ,List.mem_append,List.mem_filterMap]
 exact .inr (.inl ⟨.t t,h,rfl⟩)
theorem lh {o:bE} {t:Nat} {w:Bool} (h:o.guard=some (t,w)):t∈o.kJ:=by
 simp only[bE.kJ,List.mem_append,h]
 exact .inr (.inr (by simp))
theorem sq {o:bE} {t:Nat} (h:o.dst=some t):t∈o.kJ:=by
 simp only[bE.kJ,List.mem_append,h]
 exact .inl (by simp)
structure rb (x y:bE) (en ny:List Nat):Prop where
 iT:∀d,x.dst=some d→d∉y.kJ
 iU:∀d,y.dst=some d→d∉x.kJ
 ww:∀d∈x.writes,d∉y.writes
 K7:x.sK=true→en≠[]
 K8:y.sK=true→ny≠[]
 en:∀d∈y.writes,d∈en
 ny:∀d∈x.writes,d∈ny
theorem rb.symm {x y:bE} {en ny:List Nat} (h:rb x y en ny):rb y x ny en:=⟨h.iU,h.iT,fun d h1 h2=>h.ww d h2 h1,h.K8,h.K7,h.ny,h.en⟩
theorem rb.alike {x y:bE} {en ny:List Nat} (h:rb x y en ny) {b4:Option (Nat×b1)} {v:ag} (ah:∀i b,b4=some (i,b)→i∈x.writes):Alike y ny σ (app b4 x.dst v σ)where
 ops:=fun t ae=>kH _ _ _ _ _ fun e=>h.iT t e (me ae)
 K6:=fun t w ae=>kH _ _ _ _ _ fun e=>h.iT t e (lh ae)
 aw:=fun j az=>abf fun i b e eG=>by
  subst eG
  have hi:=ah _ _ e
  rcases az with az|az
  ·exact az (h.ny _ hi)
  ·exact h.ww _ hi az
theorem Alike.symm {o:bE} {bU:List Nat} (h:Alike o bU σ σ'):Alike o bU σ' σ:=⟨fun t ae=>(h.ops t ae).symm,fun t w ae=>(h.K6 t w ae).symm,fun j az=>(h.aw j az).symm⟩
theorem abZ {x y:bE} {en ny:List Nat} (h:rb x y en ny) {b4 kY:Option (Nat×b1)} {v ej:ag} (ah:∀i b,b4=some (i,b)→i∈x.writes) (hy:∀i b,kY=some (i,b)→i∈y.writes):
 app kY y.dst ej (app b4 x.dst v σ)=app b4 x.dst v (app kY y.dst ej σ):=by
 have aC:∀d,x.dst=some d→y.dst≠some d:=fun d e e'=>h.iT d e (sq e')
 have a1:(app kY y.dst ej (app b4 x.dst v σ)).af=(app b4 x.dst v (app kY y.dst ej σ)).af:=by
  funext t
  by_cases h1:x.dst=some t
  ·rw[kH _ _ _ _ _ (aC t h1)]
   unfold app
   rw[eS,eS,if_pos h1,if_pos h1]
  ·rw[kH _ _ _ _ _ h1]
   unfold app
   rw[eS,eS]
   by_cases h2:y.dst=some t
   ·rw[if_pos h2,if_pos h2]
   ·rw[if_neg h2,if_neg h2]
    have:∀(o:Option (Nat×b1)) (σ:St),(match o with|some (i,b)=>σ.dK i b|none=>σ).af t=σ.af t:=by intro o σ;cases o<;>rfl
    rw[this,this,eS,if_neg h1,this]
 have a6:(app kY y.dst ej (app b4 x.dst v σ)).aw=(app b4 x.dst v (app kY y.dst ej σ)).aw:=by
  funext j
  rw[nt,nt,nt,nt]
  cases b4 with
  |none=>rfl
  |some uj=>
   cases kY with
   |none=>rfl
   |some Ck=>
    have h1:=ah uj.1 uj.2 rfl
    have h2:=hy Ck.1 Ck.2 rfl
    have dX:uj.1≠Ck.1:=fun e=>h.ww _ h1 (e▸h2)
    simp only
    by_cases uk:j=uj.1
    ·have cU:¬j=Ck.1:=by omega
     simp only[uk,if_true]
     rw[if_neg (by omega)]
    ·rw[if_neg uk];split<;>simp_all
 cases al:app kY y.dst ej (app b4 x.dst v σ)with|mk t1 cf=>
 cases aE:app b4 x.dst v (app kY y.dst ej σ)with|mk t2 aY=>
 rw[al,aE]at a1 a6
 simp only at a1 a6
 rw[a1,a6]
theorem abg {x y:bE} {en ny:List Nat} (h:rb x y en ny) {r:List (bE×List Nat)} (ad:cG Γ K ((x,en)::(y,ny)::r) σ):cG Γ K ((y,ny)::(x,en)::r) σ:=by
 have v9:=Ny (Γ:=Γ) h.K7
 have m6:=Ny (Γ:=Γ) h.K8
 rw[mf _ _ _ v9]at ad
 rw[mf _ _ _ m6]
 obtain⟨b4,v,h1,h2⟩:=ad
 rw[mf _ _ _ m6]at h2
 obtain⟨kY,ej,al,aE⟩:=h2
 have ah:=LR h.K7 h1
 have hy:=LR h.K8 al
 have yj:=h.alike (σ:=σ) (v:=v) ah
 refine⟨kY,ej,zK yj.symm al,?_⟩
 rw[mf _ _ _ v9]
 refine⟨b4,v,zK (h.symm.alike (σ:=σ) (v:=ej) hy) h1,?_⟩
 rw[←abZ h ah hy]
 exact aE
structure Bc (x y:bE):Prop where
 iT:∀d,x.dst=some d→d∉y.kJ
 iU:∀d,y.dst=some d→d∉x.kJ
theorem sM {o:bE} {bU:List Nat} (hm:o.hX=true) (h1:∀t,bk.t t∈o.op.ops→σ'.af t=σ.af t) (h2:∀t w,o.guard=some (t,w)→σ'.af t=σ.af t) {b4:Option (Nat×b1)} {v:ag} (ay:lz Γ o bU σ b4 v):lz Γ o bU σ' b4 v:=by
 unfold lz at*
 have bb:kO σ' o.guard=kO σ o.guard:=by
  cases yi:o.guard with
  |none=>rfl
  |some o5=>simp only[kO,h2 o5.1 o5.2 yi]
 rw[bb]
 cases o with|mk dst op g=>
 cases op with
 |bx x=>
  have ah:σ'.aT x=σ.aT x:=by
   cases x with
   |t t=>exact h1 t (by simp[bo.ops])
   |c d=>rfl
  have aB:ch σ' (bo.ops (.bx x))=ch σ (bo.ops (.bx x)):=by simp only[bo.ops,ch,List.map_cons,List.map_nil,ah]
  split at ay
  ·refine⟨by rw[aB];exact ay.1,?_⟩
   have h2:=ay.2
   simp only[rH,oG,bo.makes,Bool.false_eq_true,if_false,bj]at h2⊢
   rw[ah];exact h2
  ·exact ay
  ·exact ay.elim
 |_=>cases hm
theorem FU {o:bE} {bU:List Nat} (hm:o.hX=true) {b4:Option (Nat×b1)} {v:ag} (ay:lz Γ o bU σ b4 v):b4=none:=by
 unfold lz at ay
 cases o with|mk dst op g=>
 cases op with
 |bx x=>
  split at ay
  ·have h2:=ay.2
   simp only[rH,oG,bo.makes,Bool.false_eq_true,if_false]at h2
   exact h2.1
  ·exact ay.1
  ·exact ay.elim
 |_=>cases hm
theorem MS {d k8:Option Nat} {b4:Option (Nat×b1)} {v ej:ag} (aC:∀t,d=some t→k8≠some t):app b4 k8 ej (app none d v σ)=app none d v (app b4 k8 ej σ):=by
 have a1:(app b4 k8 ej (app none d v σ)).af=(app none d v (app b4 k8 ej σ)).af:=by
  funext t
  by_cases h1:d=some t
  ·rw[kH _ _ _ _ _ (aC t h1)]
   unfold app
   rw[eS,eS,if_pos h1,if_pos h1]
  ·rw[kH _ _ _ _ _ h1]
   unfold app
   rw[eS,eS]
   by_cases h2:k8=some t
   ·rw[if_pos h2,if_pos h2]
   ·rw[if_neg h2,if_neg h2]
    have:∀(o:Option (Nat×b1)) (σ:St),(match o with|some (i,b)=>σ.dK i b|none=>σ).af t=σ.af t:=by intro o σ;cases o<;>rfl
    rw[this,this,eS,if_neg h1]
 have a6:(app b4 k8 ej (app none d v σ)).aw=(app none d v (app b4 k8 ej σ)).aw:=by
  funext j
  rw[nt,nt,nt,nt]
 cases al:app b4 k8 ej (app none d v σ)with|mk t1 cf=>
 cases aE:app none d v (app b4 k8 ej σ)with|mk t2 aY=>
 rw[al,aE]at a1 a6
 simp only at a1 a6
 rw[a1,a6]
theorem Ew:∀(is:List Nat) (cs:List BC) (σ:St),(gg σ is cs).af=σ.af
 |[],_,_=>by simp only[gg]
 |i::r,[],_=>by simp only[gg]
 |i::r,c::cs,σ=>by
  simp only[gg]
  split
  ·rw[Ew r cs];rfl
  ·exact Ew r cs σ
theorem Eb:∀(is:List Nat) (cs:List BC) (σ:St) (d:Option Nat) (v:ag),gg (σ.put d v) is cs=(gg σ is cs).put d v
 |[],_,_,_,_=>by simp only[gg]
 |i::r,[],_,_,_=>by simp only[gg]
 |i::r,c::cs,σ,d,v=>by
  simp only[gg,j6]
  cases ar:σ.aw i with
  |none=>exact Eb r cs σ d v
  |some b=>
   simp only
   rw[←Eb r cs]
   congr 1
   cases d<;>rfl
theorem LS (σ:St) (p:Nat→Bool) (d:Option Nat) (v:ag):∀is:List Nat,contents (σ.put d v) p is=contents σ p is
 |[]=>rfl
 |i::r=>by simp only[contents,j6,LS σ p d v r]
theorem E7 (σ:St) {d e:Option Nat} {u v:ag} (h:∀t,d=some t→e≠some t):(σ.put e u).put d v=(σ.put d v).put e u:=by
 have a1:((σ.put e u).put d v).af=((σ.put d v).put e u).af:=by
  funext t
  rw[eS,eS,eS,eS]
  by_cases h1:d=some t
  ·rw[if_pos h1,if_neg (h t h1),if_pos h1]
  ·rw[if_neg h1,if_neg h1]
 have a6:((σ.put e u).put d v).aw=((σ.put d v).put e u).aw:=by rw[j6,j6,j6,j6]
 cases al:(σ.put e u).put d v with|mk t1 cf=>
 cases aE:(σ.put d v).put e u with|mk t2 aY=>
 rw[al,aE]at a1 a6
 simp only at a1 a6
 rw[a1,a6]
theorem Ai {C:fL} {dst:Option Nat} {vs:List ag} (h:lx C dst σ K vs):∃s,(∀t,dst≠some t→s.af t=σ.af t)∧K s∧
 ∀(d:Option Nat) (v:ag),(∀t,d=some t→dst≠some t)→∀ei:St→Prop,ei (s.put d v)→lx C dst (σ.put d v) ei vs:=by
 have P2:∀(d:Option Nat) (v:ag) (is:List Nat),reach (σ.put d v) is=reach σ is:=fun d v is=>by simp only[reach,j6]
 unfold lx ow at h
 split at h
 ·rename_i B6 ao
  obtain⟨h1,h2,al,aE⟩:=h
  refine⟨_,fun t ae=> ?_,aE,fun d v aC ei ad=> ?_⟩
  ·rw[eS,if_neg ae,Ew]
  ·unfold lx ow
   rw[P2,P2,LS,ao]
   refine⟨h1,h2,al,?_⟩
   rw[Eb,←E7 _ aC]
   exact ad
 ·exact h.elim
theorem ss {x:bE} {en:List Nat} (hm:x.hX=true) {r:List (bE×List Nat)} :cG Γ K ((x,en)::r) σ↔∃v,lz Γ x en σ none v∧cG Γ K r (σ.put x.dst v):=by
 rw[mf _ _ _ (abY hm)]
 constructor
 ·rintro⟨b4,v,h1,h2⟩
  have:=FU hm h1
  subst this
  exact⟨v,h1,h2⟩
 ·rintro⟨v,h1,h2⟩
  exact⟨none,v,h1,h2⟩
theorem Nz (σ:St) (d:Option Nat) {v:ag} (h:∀t,d=some t→σ.af t=v):σ.put d v=σ:=by
 have a1:(σ.put d v).af=σ.af:=by
  funext t
  rw[eS]
  by_cases aC:d=some t
  ·rw[if_pos aC,h t aC]
  ·rw[if_neg aC]
 have a6:(σ.put d v).aw=σ.aw:=j6 ..
 cases al:σ.put d v with|mk t1 cf=>
 rw[al]at a1 a6
 simp only at a1 a6
 rw[a1,a6]
theorem NA (σ:St) (d:Option Nat) (u v:ag):(σ.put d u).put d v=σ.put d v:=by
 have a1:((σ.put d u).put d v).af=(σ.put d v).af:=by
  funext t
  rw[eS,eS,eS]
  by_cases aC:d=some t
  ·rw[if_pos aC,if_pos aC]
  ·rw[if_neg aC,if_neg aC,if_neg aC]
 have a6:((σ.put d u).put d v).aw=(σ.put d v).aw:=by rw[j6,j6,j6]
 cases al:(σ.put d u).put d v with|mk t1 cf=>
 cases aE:σ.put d v with|mk t2 aY=>
 rw[al,aE]at a1 a6
 simp only at a1 a6
 rw[a1,a6]
def Ge (Γ:Env) (o:bE) (bU:List Nat):Prop:=∃f as C,o.op= .call f as∧bU=[]∧Γ.mt f=some C
theorem Aj (o:bE) (bU:List Nat):uZ Γ o bU∨Ge Γ o bU:=by
 cases o with|mk dst op g=>
 cases op with
 |call f as=>
  cases bU with
  |nil=>
   cases h:Γ.mt f with
   |none=>exact .inl h
   |some C=>exact .inr ⟨f,as,C,rfl,rfl,h⟩
  |cons _ _=>exact .inl trivial
 |_=>exact .inl trivial
theorem xd {o:bE} {bU:List Nat} {f:Nat} {as:List bk} {C:fL} (h1:o.op= .call f as) (h2:bU=[]) (al:Γ.mt f=some C):mF Γ o bU σ K↔lx C o.dst σ K (ch σ as):=by
 subst h2
 cases o with|mk dst op g=>
 simp only at h1
 subst h1
 unfold mF
 simp only[q3,al]
 exact⟨fun h=>h.2,fun h=>⟨rfl,h⟩⟩
theorem MT {o:bE} {f:Nat} {as:List bk} (h:o.op= .call f as) (e:∀t,bk.t t∈o.op.ops→σ'.af t=σ.af t):ch σ' as=ch σ as:=by
 rw[h]at e
 simp only[bo.ops]at e
 unfold ch
 refine List.map_congr_left fun x ah=> ?_
 cases x with
 |t t=>exact e t ah
 |c d=>rfl
theorem Ec {o:bE} (e:∀t w,o.guard=some (t,w)→σ'.af t=σ.af t):kO σ' o.guard=kO σ o.guard:=by
 cases yi:o.guard with
 |none=>rfl
 |some o5=>simp only[kO,e o5.1 o5.2 yi]
theorem aaz {x y:bE} {en ny:List Nat} (h:Bc x y) (hm:x.hX=true) (bb:Ge Γ y ny) {r:List (bE×List Nat)} (ad:cG Γ K ((x,en)::(y,ny)::r) σ):cG Γ K ((y,ny)::(x,en)::r) σ:=by
 obtain⟨f,as,C,cW,dy,fM⟩:=bb
 rw[ss hm]at ad
 obtain⟨v,ay,ad⟩:=ad
 have yk:∀t,x.dst=some t→y.dst≠some t:=fun t e e'=>h.iT t e (sq e')
 have Ul:∀t,y.dst=some t→x.dst≠some t:=fun t e e'=>h.iU t e (sq e')
 simp only[cG]at ad
 show guarded σ y.guard (mF Γ y ny σ (cG Γ K ((x,en)::r))) (cG Γ K ((x,en)::r) (σ.put y.dst .c1))
 rw[qH]at ad⊢
 rw[Ec (σ':=σ.put x.dst v) (σ:=σ) (fun t w e=>by rw[eS,if_neg (fun e'=>h.iT t e' (lh e))])]at ad
 rcases ad with ⟨br,bw⟩|⟨br,bw⟩
 ·refine .inl ⟨br,?_⟩
  rw[xd cW dy fM]at bw⊢
  rw[MT (σ':=σ.put x.dst v) (σ:=σ) cW (fun t ae=>by rw[eS,if_neg (fun e'=>h.iT t e' (me ae))])]at bw
  obtain⟨s,s1,s2,kv⟩:=Ai bw
  cases aC:x.dst with
  |none=>
   have:=kv none .c1 (fun t e=>by cases e) (cG Γ K ((x,en)::r)) ((ss hm).2 ⟨v,sM hm (fun t ae=> ?_) (fun t w e=> ?_) ay,?_⟩)
   ·rw[aC]at this;exact this
   ·rw[show s.put none .c1=s from rfl,s1 t (fun e'=>h.iU t e' (me ae)),aC];rfl
   ·rw[show s.put none .c1=s from rfl,s1 t (fun e'=>h.iU t e' (lh e)),aC];rfl
   ·rw[aC];exact s2
  |some d=>
   have:=kv (some d) (σ.af d) (fun t e=>yk t (aC.trans e)) (cG Γ K ((x,en)::r)) ((ss hm).2 ⟨v,sM hm (fun t ae=> ?_) (fun t w e=> ?_) ay,?_⟩)
   ·rw[aC,NA,Nz _ _ (fun t e=>by cases e;rfl)]at this
    exact this
   ·rw[eS]
    split
    ·rename_i e;cases e;rfl
    ·rename_i dX
     rw[s1 t (fun e'=>h.iU t e' (me ae)),aC,eS,if_neg dX]
   ·rw[eS]
    split
    ·rename_i e';cases e';rfl
    ·rename_i dX
     rw[s1 t (fun e'=>h.iU t e' (lh e)),aC,eS,if_neg dX]
   ·rw[aC,NA,Nz]
    ·exact s2
    ·intro t e
     rw[s1 t (yk t (aC.trans e)),aC,eS,if_pos e]
 ·refine .inr ⟨br,?_⟩
  refine(ss hm).2 ⟨v,sM hm (fun t ae=> ?_) (fun t w e=> ?_) ay,?_⟩
  ·rw[eS,if_neg (fun e'=>h.iU t e' (me ae))]
  ·rw[eS,if_neg (fun e'=>h.iU t e' (lh e))]
  ·rw[E7 _ yk];exact bw
theorem Z6 {x y:bE} {en ny:List Nat} (h:Bc x y) (hm:y.hX=true) (bb:Ge Γ x en) {r:List (bE×List Nat)} (ad:cG Γ K ((x,en)::(y,ny)::r) σ):cG Γ K ((y,ny)::(x,en)::r) σ:=by
 obtain⟨f,as,C,cW,dy,fM⟩:=bb
 have yk:∀t,x.dst=some t→y.dst≠some t:=fun t e e'=>h.iT t e (sq e')
 have Ul:∀t,y.dst=some t→x.dst≠some t:=fun t e e'=>h.iU t e (sq e')
 rw[ss hm]
 simp only[cG]at ad
 rw[qH]at ad
 rcases ad with ⟨br,bw⟩|⟨br,bw⟩
 ·rw[xd cW dy fM]at bw
  obtain⟨s,s1,s2,kv⟩:=Ai bw
  have Cl:cG Γ K ((y,ny)::r) s:=s2
  rw[ss hm]at Cl
  obtain⟨v,ay,aq⟩:=Cl
  refine⟨v,sM hm (fun t ae=> ?_) (fun t w e=> ?_) ay,?_⟩
  ·rw[s1 t (fun e'=>h.iT t e' (me ae))]
  ·rw[s1 t (fun e'=>h.iT t e' (lh e))]
  ·simp only[cG]
   rw[qH,Ec (σ':=σ.put y.dst v) (σ:=σ) (fun t w e=>by rw[eS,if_neg (fun e'=>h.iU t e' (lh e))])]
   refine .inl ⟨br,?_⟩
   rw[xd cW dy fM,MT (σ':=σ.put y.dst v) (σ:=σ) cW (fun t ae=>by rw[eS,if_neg (fun e'=>h.iU t e' (me ae))])]
   exact kv y.dst v Ul _ aq
 ·have Um:cG Γ K ((y,ny)::r) (σ.put x.dst .c1):=bw
  rw[ss hm]at Um
  obtain⟨v,ay,aq⟩:=Um
  refine⟨v,sM hm (fun t ae=> ?_) (fun t w e=> ?_) ay,?_⟩
  ·rw[eS,if_neg (fun e'=>h.iT t e' (me ae))]
  ·rw[eS,if_neg (fun e'=>h.iT t e' (lh e))]
  ·simp only[cG]
   rw[qH,Ec (σ':=σ.put y.dst v) (σ:=σ) (fun t w e=>by rw[eS,if_neg (fun e'=>h.iU t e' (lh e))])]
   refine .inr ⟨br,?_⟩
   rw[E7 _ yk];exact aq
theorem aaA {x y:bE} {en ny:List Nat} (h:Bc x y) (hm:x.hX=true∨y.hX=true) {r:List (bE×List Nat)} (ad:cG Γ K ((x,en)::(y,ny)::r) σ):cG Γ K ((y,ny)::(x,en)::r) σ:=by
 rcases Aj (Γ:=Γ) x en with v9|YN
 case inr=>
  rcases hm with hm|hm
  ·obtain⟨f,as,C,cW,_⟩:=YN
   cases x with|mk dst op g=>simp only at cW;subst cW;cases hm
  ·exact Z6 h hm YN ad
 rcases Aj (Γ:=Γ) y ny with m6|YO
 case inr=>
  rcases hm with hm|hm
  ·exact aaz h hm YO ad
  ·obtain⟨f,as,C,cW,_⟩:=YO
   cases y with|mk dst op g=>simp only at cW;subst cW;cases hm
 rw[mf _ _ _ v9]at ad
 rw[mf _ _ _ m6]
 obtain⟨b4,v,h1,h2⟩:=ad
 rw[mf _ _ _ m6]at h2
 obtain⟨kY,ej,al,aE⟩:=h2
 rcases hm with hm|hm
 ·have:=FU hm h1
  subst this
  have yj:Alike y ny (app none x.dst v σ) σ:=⟨fun t ae=>(kH _ _ _ _ _ fun e=>h.iT t e (me ae)).symm,fun t w ae=>(kH _ _ _ _ _ fun e=>h.iT t e (lh ae)).symm,fun j _=>by rw[nt]⟩
  refine⟨kY,ej,zK yj al,?_⟩
  rw[mf _ _ _ v9]
  refine⟨none,v,sM hm (fun t ae=>kH _ _ _ _ _ fun e=>h.iU t e (me ae)) (fun t w ae=>kH _ _ _ _ _ fun e=>h.iU t e (lh ae)) h1,?_⟩
  rw[←MS (fun t e e'=>h.iT t e (sq e'))]
  exact aE
 ·have:=FU hm al
  subst this
  refine⟨none,ej,sM hm (fun t ae=>(kH _ _ _ _ _ fun e=>h.iT t e (me ae)).symm) (fun t w ae=>(kH _ _ _ _ _ fun e=>h.iT t e (lh ae)).symm) al,?_⟩
  rw[mf _ _ _ v9]
  have yj:Alike x en σ (app none y.dst ej σ):=⟨fun t ae=>kH _ _ _ _ _ fun e=>h.iU t e (me ae),fun t w ae=>kH _ _ _ _ _ fun e=>h.iU t e (lh ae),fun j _=>by rw[nt]⟩
  refine⟨b4,v,zK yj h1,?_⟩
  rw[MS (fun t e e'=>h.iU t e (sq e'))]
  exact aE
def FV (x y:bE) (en ny:List Nat):Prop:=rb x y en ny∨(Bc x y∧(x.hX=true∨y.hX=true))
theorem aaB {x y:bE} {en ny:List Nat} (h:FV x y en ny) {r:List (bE×List Nat)} (ad:cG Γ K ((x,en)::(y,ny)::r) σ):cG Γ K ((y,ny)::(x,en)::r) σ:=by
 rcases h with h|⟨h,hm⟩
 ·exact abg h ad
 ·exact aaA h hm ad
theorem abh {o:bE} {bU:List Nat} {A B:List (bE×List Nat)} (H3:∀s,cG Γ K A s→cG Γ K B s) (h:cG Γ K ((o,bU)::A) σ):cG Γ K ((o,bU)::B) σ:=by
 rcases Aj (Γ:=Γ) o bU with p|⟨f,as,C,cW,dy,fM⟩
 ·rw[mf _ _ _ p]at*
  obtain⟨b4,v,h1,h2⟩:=h
  exact⟨b4,v,h1,H3 _ h2⟩
 ·simp only[cG]at h⊢
  rw[qH]at h⊢
  rcases h with ⟨br,bw⟩|⟨br,bw⟩
  ·refine .inl ⟨br,?_⟩
   rw[xd cW dy fM]at bw⊢
   obtain⟨s,_,s2,kv⟩:=Ai bw
   exact kv none .c1 (fun t e=>by cases e) _ (H3 _ s2)
  ·exact .inr ⟨br,H3 _ bw⟩
theorem Mu {y:bE} {ny:List Nat} :∀{xs:List (bE×List Nat)} {r:List (bE×List Nat)},(∀x∈xs,FV x.1 y x.2 ny)→∀{σ:St},cG Γ K (xs++(y,ny)::r) σ→cG Γ K ((y,ny)::(xs++r)) σ
 |[],r,_,σ,ad=>ad
 |x::xs,r,h,σ,ad=>by
  refine aaB (h x (by simp)) ?_
  rw[List.cons_append]at ad
  exact abh (fun s ay=>Mu (fun z bg=>h z (by simp[bg])) ay) ad
end
end RV
namespace RV
open Go Go.RowKit
section
variable {ops:Array Oper}
theorem ZK {after:Array Edge} {acc:Array Nat} {k:Nat} (ad:acc.size=k):∀i,(after.foldl (fun s e=>if Region.binds .any e then s|||2^e.on|||acc.getD e.on 0 else s) 0).testBit i=true→
 ∃e∈after,Region.binds .any e=true∧(e.on=i∨(e.on<k∧(acc.getD e.on 0).testBit i=true)):=by
 refine Array.foldl_induction (motive:=fun _ (s:Nat)=>∀i,s.testBit i=true→∃e∈after,Region.binds .any e=true∧(e.on=i∨(e.on<k∧(acc.getD e.on 0).testBit i=true))) (fun i h=>by simp at h) ?_
 intro j s cm i h
 have hm:after[j]∈after:=Array.getElem_mem j.2
 generalize after[j]=cF at h hm
 split at h
 ·rename_i ar
  rw[Nat.testBit_or,Nat.testBit_or,Bool.or_eq_true,Bool.or_eq_true]at h
  rcases h with (h|h)|h
  ·exact cm i h
  ·rw[Nat.testBit_two_pow]at h
   exact⟨_,hm,ar,.inl (by simpa using h)⟩
  ·refine⟨_,hm,ar,.inr ⟨?_,h⟩⟩
   rcases Nat.lt_or_ge cF.on acc.size with dT|dT
   ·omega
   ·simp[Array.getD_eq_getD_getElem?,Array.getElem?_eq_none dT]at h
 ·exact cm i h
theorem L5 {j:Nat} {o:Oper} (bh:ops[j]? =some o):∀i,((Region.before ops).getD j 0).testBit i=true→
 ∃e∈o.after,Region.binds .any e=true∧(e.on=i∨(e.on<j∧((Region.before ops).getD e.on 0).testBit i=true)):=by
 have main:(Region.before ops).size=ops.size∧∀j,j<ops.size→∀o,ops[j]? =some o→∀i,((Region.before ops).getD j 0).testBit i=true→
  ∃e∈o.after,Region.binds .any e=true∧(e.on=i∨(e.on<j∧((Region.before ops).getD e.on 0).testBit i=true)):=by
  refine Array.foldl_induction (motive:=fun k (acc:Array Nat)=>acc.size=k∧∀j,j<k→∀o,ops[j]? =some o→∀i,(acc.getD j 0).testBit i=true→
   ∃e∈o.after,Region.binds .any e=true∧(e.on=i∨(e.on<j∧(acc.getD e.on 0).testBit i=true))) ⟨rfl,fun j az=>by omega⟩ ?_
  rintro k acc ⟨ay,cm⟩
  refine⟨by simp[ay],fun j az o bh i hi=> ?_⟩
  have old:∀m (v:Nat),m<acc.size→(acc.push v).getD m 0=acc.getD m 0:=fun m v hm=>by
   simp[Array.getD_eq_getD_getElem?,Array.getElem?_push,Nat.ne_of_lt hm]
  rcases Nat.lt_or_ge j k.1 with bp|tB
  ·rw[old j _ (by omega)]at hi
   obtain⟨e,he,ar,h⟩:=cm j bp o bh i hi
   refine⟨e,he,ar,h.imp id fun⟨h1,h2⟩=>⟨h1,?_⟩⟩
   rw[old _ _ (by omega)];exact h2
  ·have lK:j=k.1:=by omega
   subst lK
   have hr:o=ops[k]:=by
    rw[Array.getElem?_eq_getElem k.2]at bh
    simpa using bh.symm
   have aA:(acc.push (ops[k].after.foldl (fun s e=>if Region.binds .any e then s|||2^e.on|||acc.getD e.on 0 else s) 0)).getD k.1 0=ops[k].after.foldl (fun s e=>if Region.binds .any e then s|||2^e.on|||acc.getD e.on 0 else s) 0:=by
    rw[Array.getD_eq_getD_getElem?,Array.getElem?_push,if_pos ay.symm];rfl
   rw[show ((acc.push _).getD k.1 0=_)from aA]at hi
   obtain⟨e,he,ar,h⟩:=ZK ay i hi
   refine⟨e,by rw[hr];exact he,ar,h.imp id fun⟨h1,h2⟩=>⟨h1,?_⟩⟩
   rw[old _ _ (by omega)];exact h2
 exact main.2 j (Array.getElem?_eq_some_iff.1 bh).1 o bh
theorem LF {b:Array Nat} {j:Nat} (h:uI b j=true) {i:Nat} (hi:i<j):(b.getD j 0).testBit i=true:=by
 simp only[uI,List.all_eq_true,List.mem_range]at h
 exact h i hi
theorem D4 {b:Array Nat} :∀{n j:Nat},n - hK b n≤j→j<n→uI b j=true
 |0,j,_,h=>by omega
 |n+1,j,h1,h2=>by
  unfold hK at h1
  split at h1
  ·rename_i hw
   rcases Nat.lt_or_ge j n with h|h
   ·exact D4 (n:=n) (by omega) h
   ·have:j=n:=by omega
    subst this;exact hw
  ·omega
def u0 (ops:Array Oper) (L:Array Bool):Prop:=∀k o,ops[k]? =some o→L.getD k false=true→∀e∈o.after,Region.binds .any e=true→L.getD e.on false=true
theorem LG {L:Array Bool} (ao:u0 ops L):∀(n j:Nat),j<n→j<ops.size→L.getD j false=true→∀i,((Region.before ops).getD j 0).testBit i=true→L.getD i false=true
 |0,j,h,_,_=>by omega
 |n+1,j,h,az,aB=>by
  intro i hi
  obtain⟨e,he,ar,dT⟩:=L5 (Array.getElem?_eq_getElem az) i hi
  have hle:=ao j _ (Array.getElem?_eq_getElem az) aB e he ar
  rcases dT with rfl|⟨h1,h2⟩
  ·exact hle
  ·exact LG ao n e.on (by omega) (by omega) hle i h2
theorem DT {L:Array Bool} (ao:u0 ops L) {j:Nat} (aq:j∈Region.ready .any ops L):∀i,((Region.before ops).getD j 0).testBit i=true→L.getD i false=true:=by
 obtain⟨_,o,bh,fB⟩:=mem_ready.1 aq
 intro i hi
 obtain⟨e,he,ar,dT⟩:=L5 bh i hi
 have hle:=fB e he ar
 rcases dT with rfl|⟨h1,h2⟩
 ·exact hle
 ·exact LG ao _ e.on (Nat.lt_succ_self _) (by have:=(Array.getElem?_eq_some_iff.1 bh).1;omega) hle i h2
theorem aaC {L:Array Bool} (ao:u0 ops L) {j:Nat} (aq:j∈Region.ready .any ops L):u0 ops (L.setIfInBounds j true):=by
 obtain⟨_,o,bh,fB⟩:=mem_ready.1 aq
 intro k o' hr ad e he ar
 refine getD_set_true ?_
 by_cases Un:j=k
 ·subst Un
  rw[bh]at hr
  simp only[Option.some.injEq]at hr
  subst hr
  exact fB e he ar
 ·rw[getD_set_ne false Un]at ad
  exact ao k o' hr ad e he ar
end
section
variable {N:Nat} {aK:dU} {aF:Mem} {R:bC} {σ σ':St} {a:Act} {w w':World} {rd rd':Mem} {β β':bC} {P:Program} {Γ:Env} {ops:Array Oper}
theorem eL.wpOp {i:Nat} {o:Oper} (bh:ops[i]? =some o) {K:St→Prop} {next:Act→World→Prop} {Q:Exit→Act→World→Prop} (hw:Region.wanted o (yielded ops a.tmps)=true) (h:eL P N aK aF R o a w K)
 (aH:∀σ' b2 w' rd' β',K σ'→a8 N aK aF R σ' b2 w' rd' β'→next b2 w'):wpOp P ops Q i next a w:=by
 unfold Go.wpOp
 simp only[bh,hw,if_true]
 exact .inl (h next Q aH)
theorem ab0 (cE:aO P aF Γ) (h:a8 N aK aF R σ a w rd β) {o:Oper} {l:bo} (ae:dm P o.type o.op=some l) (aC:gB N o.dst=true) {g:Option (Nat×Bool)} {bU:List Nat} {K:St→Prop}
 (ad:mF Γ ⟨o.dst,l,g⟩ bU σ K):eL P N aK aF R o a w K:=by
 unfold mF at ad
 obtain⟨_,ad⟩:=ad
 have makes:l.makes=true→lE Γ o.dst l σ K→eL P N aK aF R o a w K:=by
  intro hm ad
  unfold lE at ad
  rw[if_pos hm]at ad
  cases kc:o.dst with
  |none=>rw[kc]at ad;exact ad.elim
  |some i=>
   rw[kc]at ad
   obtain⟨hi,ad⟩:=ad
   have fI:β i=none:=by
    cases e:β i with
    |none=>rfl
    |some r=>obtain⟨b,ar,_⟩:=h.box i r e;rw[hi]at ar;cases ar
   refine wQ h ae hm aC (i:=i) (g:=fun b=>σ.dK i b) (by rw[kc];exact ad) (fun b=>ZX h hi b) (fun x _ r vs aq=> ?_)
   refine bN.ext (fun j r' az=> ?_) _ _ aq
   by_cases e:j=i
   ·subst e;rw[fI]at az;cases az
   ·simpa [eK,e]using az
 have value:l.makes=false→lE Γ o.dst l σ K→eL P N aK aF R o a w K:=by
  intro hm ad
  unfold lE at ad
  rw[if_neg (by rw[hm];simp)]at ad
  exact MQ cE h ae aC ad
 cases l with
 |store n x y=>
  simp only at ad
  obtain⟨kc,ad⟩:=ad
  rw[wI]at ad
  obtain⟨i,b,h1,h2⟩:=ad
  cases bU with
  |nil=>
   simp only[nf,om]at h1
   split at h1
   ·rename_i jX off aS
    split at h1
    ·rename_i e c ar
     obtain⟨al,aE,h1⟩:=h1
     split at h1
     ·rename_i c' ao
      obtain⟨rfl,rfl⟩:=h1
      exact wM h ae aC ar al aE (.inl ⟨off,aS,ao⟩) (by rw[kc];exact h2)
     ·exact h1.elim
    ·exact h1.elim
   ·rename_i jX j off aS
    split at h1
    ·rename_i e c ar
     obtain⟨al,aE,h1⟩:=h1
     split at h1
     ·rename_i c' ao
      obtain⟨rfl,rfl⟩:=h1
      exact wM h ae aC ar al aE (.inr ⟨j,off,aS,ao⟩) (by rw[kc];exact h2)
     ·exact h1.elim
    ·exact h1.elim
   ·exact h1.elim
  |cons _ _=>
  simp only[nf]at h1
  obtain⟨p,off,rfl,aS⟩:=L4 h1
  simp only[stored,aS]at h1
  obtain⟨_,h1⟩:=h1
  split at h1
  ·rename_i e c ar
   obtain⟨al,aE,h1⟩:=h1
   split at h1
   ·rename_i c' ao
    obtain⟨rfl,rfl⟩:=h1
    exact wM h ae aC ar al aE (.inl ⟨off,aS,ao⟩) (by rw[kc];exact h2)
   ·exact h1.elim
  ·exact h1.elim
 |call f as=>
  simp only[q3]at ad
  split at ad
  ·rename_i amm fE
   obtain⟨p,c2,bu,has⟩:=Ms ae
   have b9:=cE.2 f _ (by assumption)
   exact D9 b9 h aC (us:=p.map a.eval) (by simpa using nb h has) (Et bu b9.1) (uE σ _).1 (fun i hi=>(uE σ _).2 i ((uE σ _).2 i (wE (sF _ i hi)))) ad
  ·exact value rfl ad
 |alloc z=>exact makes rfl ad
 |box z=>exact makes rfl ad
 |kT _ _ z=>exact makes rfl ad
 |nil z=>exact makes rfl ad
 |_=>exact value rfl ad
theorem aaD (cE:aO P aF Γ) (h:a8 N aK aF R σ a w rd β) {M:Nat} (bR:M≤N) {i:Nat} {o:Oper} (bh:ops[i]? =some o) {lo:bE} (ae:lv P M ops o=some lo) {bU:List Nat} {r:List (bE×List Nat)} {K:St→Prop}
 (ad:cG Γ K ((lo,bU)::r) σ) {next:Act→World→Prop} {Q:Exit→Act→World→Prop} (aH:∀σ' b2 w' rd' β',cG Γ K r σ'→a8 N aK aF R σ' b2 w' rd' β'→next b2 w'):wpOp P ops Q i next a w:=by
 obtain⟨l,g,h1,h2,al,rfl⟩:=wH ae
 have aC:=zR bR al
 simp only[cG]at ad
 rcases zJ h h2 ad with ⟨hw,ad⟩|⟨hw,ad⟩
 ·exact eL.wpOp bh hw (ab0 cE h h1 aC ad) aH
 ·unfold Go.wpOp
  simp only[bh,hw,Bool.false_eq_true,if_false]
  exact aH _ _ _ _ _ ad (h.put aC (by simp only[aP]))
theorem aaE (cE:aO P aF Γ) (h:a8 N aK aF R σ a w rd β) {M:Nat} (bR:M≤N) {i:Nat} {o:Oper} (bh:ops[i]? =some o) {lo:bE} (ae:lv P M ops o=some lo) {r:List bE} {K:St→Prop}
 (ad:fA Γ K (lo::r) σ) {next:Act→World→Prop} {Q:Exit→Act→World→Prop} (aH:∀σ' b2 w' rd' β',fA Γ K r σ'→a8 N aK aF R σ' b2 w' rd' β'→next b2 w'):wpOp P ops Q i next a w:=by
 obtain⟨l,g,h1,h2,al,rfl⟩:=wH ae
 have aC:=zR bR al
 simp only[fA]at ad
 rcases zJ h h2 ad with ⟨hw,ad⟩|⟨hw,ad⟩
 ·exact eL.wpOp bh hw (Ev cE h h1 aC ad) aH
 ·unfold Go.wpOp
  simp only[bh,hw,Bool.false_eq_true,if_false]
  exact aH _ _ _ _ _ ad (h.put aC (by simp only[aP]))
theorem a8.lose (h:a8 N aK aF R σ a w rd β) (i:Nat):a8 N aK aF R ⟨fun t=>(σ.af t).kill i,fun j=>if j=i then none else (σ.aw j).map (b1.kill i)⟩ a w rd (eK β i none)where
 size:=h.size
 defers:=h.defers
 cw:=h.cw
 c4:=fun k o ad=>⟨(h.c4 k o ad).1.to (fun _ _ e _=> .inl e) (fun j r' az e=>by
  by_cases q:j=i
  ·subst q;rw[nc]at az;cases az
  ·exact⟨j,r',by simpa [eK,q]using az,e⟩),(h.c4 k o ad).2⟩
 cJ:=h.cJ
 dd:=h.dd
 aF:=h.aF
 dV:=fun j r b az ah bg aL a2=>by
  by_cases e:j=i
  ·subst e;rw[nc]at az;cases az
  ·simp only[eK,e,if_false]at az ah
   obtain⟨cR,h0,_⟩:=h.box j r az
   rw[h0]at ah
   simp only[Option.map_some,Option.some.injEq]at ah
   subst ah
   exact h.dV j r cR az h0 bg aL a2
 dW:=fun t=>aP.kill (fun j az=>by simp[eK,az]) (h.dW t)
 box:=fun j r az=>by
  by_cases e:j=i
  ·subst e;rw[nc]at az;cases az
  ·simp only[eK,e,if_false]at az
   obtain⟨cR,h0,de,eM,h1,h2⟩:=h.box j r az
   refine⟨cR.kill i,by simp[e,h0],?_,eM,h1,h2⟩
   have:=de.fm (β':=eK β i none) (f:=ag.kill i) (fun x v ah=>aP.kill (fun j az=>by simp[eK,az]) ah) (w':=w) (fun _ _ _=>rfl)
   rw[b1.xb]
   exact this
 dP:=fun j b ah az=>by
  by_cases e:j=i
  ·subst e;simp at ah
  ·simp only[eK,e,if_false]at az ah
   cases h0:σ.aw j with
   |none=>rw[h0]at ah;cases ah
   |some cR=>
    rw[h0]at ah
    simp only[Option.map_some,Option.some.injEq]at ah
    subst ah
    obtain⟨br,bw⟩:=h.dP j cR h0 az
    exact⟨br,by rw[←bw,b1.xb];exact uD _ cR.c⟩
 dS:=fun j k ha kt lK az ad=>by
  by_cases e:j=i
  ·subst e;rw[nc]at az;cases az
  ·by_cases e':k=i
   ·subst e';rw[nc]at ad;cases ad
   ·simp only[eK,e,e',if_false]at az ad
    exact h.dS j k ha kt lK az ad
theorem a8.je:∀(pre:List (bE×List Nat)) {σ:St} {β:bC},a8 N aK aF R σ a w rd β→∃β',a8 N aK aF R (RV.je σ pre) a w rd β'
 |[],σ,β,h=>⟨β,h⟩
 |o::r,σ,β,h=>by
  unfold RV.je
  split
  ·exact a8.je r (h.lose _)
  ·exact a8.je r h
end
end RV
namespace RV
open Go Go.RowKit
theorem iF.length {α gX:Type} {r:α→gX→Prop} :∀{xs:List α} {ax:List gX},iF r xs ax→xs.length=ax.length
 |_,_,.nil=>rfl
 |_,_,.cons _ t=>by simp[t.length]
theorem iF.get {α gX:Type} {r:α→gX→Prop} :∀{xs:List α} {ax:List gX},iF r xs ax→∀{i:Nat} {y:gX},ax[i]? =some y→∃x,xs[i]? =some x∧r x y
 |_,_,.nil,i,y,h=>by simp at h
 |_,_,.cons h0 t,0,y,h=>by simp only[List.getElem?_cons_zero,Option.some.injEq]at h;subst h;exact⟨_,rfl,h0⟩
 |_,_,.cons _ t,i+1,y,h=>by simpa using t.get (by simpa using h)
theorem Mv {α:Type} :∀(l:List α) (k:Nat),(l.zipIdx k).Pairwise fun a b=>a.2<b.2
 |[],_=> .nil
 |x::xs,k=>by
  rw[List.zipIdx_cons]
  refine .cons (fun y hy=> ?_) (Mv xs (k+1))
  have:=List.le_snd_of_mem_zipIdx hy
  simp only;omega
theorem w2 {L:Array Bool} {i:Nat} (h:i<L.size) (d e:Bool):L.getD i d=L.getD i e:=by
 simp[Array.getD_eq_getD_getElem?,h]
theorem EN {L:Array Bool} {i j:Nat} (h:i<L.size):(L.setIfInBounds i true).getD j false=if j=i then true else L.getD j false:=by
 by_cases e:j=i
 ·subst e;rw[if_pos rfl];simp[Array.getD_eq_getD_getElem?,h]
 ·rw[if_neg e];exact getD_set_ne false (Ne.symm e)
theorem DU {ops:Array Oper} (h:uP ops=true) {i:Nat} {o:Oper} (bh:ops[i]? =some o) {e:Edge} (he:e∈o.after) (ar:Region.binds .any e=true):e.on<i:=by
 simp only[uP,List.all_eq_true,Prod.forall]at h
 have:=h o i (by rw[List.mem_zipIdx_iff_getElem?];simpa using bh)
 simp only[Array.all_eq_true_iff_forall_mem,Bool.or_eq_true,Bool.not_eq_true',decide_eq_true_eq]at this
 rcases this e he with h|h
 ·rw[ar]at h;cases h
 ·exact h
section
variable {N:Nat} {aK:dU} {aF:Mem} {R:bC} {P:Program} {Γ:Env} {ops:Array Oper}
theorem NB (cE:aO P aF Γ) {M:Nat} (bR:M≤N) {l:List bE} (aB:iF (fun i lo=>∃o,ops[i]? =some o∧lv P M ops o=some lo) (List.range ops.size) l) (b9:uP ops=true)
 {p:Nat} (aS:∀j,p≤j→j<ops.size→uI (Region.before ops) j=true) {K:St→Prop} {Q:Exit→Act→World→Prop} (cn:∀a w,hb N aK aF R K a w→Q .normal a w):
 ∀(fuel q:Nat) {L:Array Bool} {σ:St} {a:Act} {w:World} {rd:Mem} {β:bC},p≤q→fuel+q=ops.size→L.size=ops.size→(∀i,i<ops.size→(L.getD i false=true↔i<q))→
  a8 N aK aF R σ a w rd β→fA Γ K (l.drop q) σ→wpAny P .any ops Q fuel L a w:=by
 intro fuel
 have hlen:l.length=ops.size:=by rw[←aB.length,List.length_range]
 induction fuel with
 |zero=>
  intro q L σ a w rd β lQ aZ ay gu ao ad
  have FW:Region.ready .any ops L=[]:=by
   cases aq:Region.ready .any ops L with
   |nil=>rfl
   |cons i is=>
    have hi:i∈Region.ready .any ops L:=by rw[aq];simp
    obtain⟨h0,o,bh,_⟩:=mem_ready.1 hi
    have gI:=(Array.getElem?_eq_some_iff.1 bh).1
    rw[w2 (by omega) true false,(gu i gI).2 (by omega)]at h0
    cases h0
  refine⟨FW,cn _ _ ⟨σ,rd,β,?_,ao⟩⟩
  rw[List.drop_of_length_le (by omega)]at ad
  exact ad
 |succ fuel cm=>
  intro q L σ a w rd β lQ aZ ay gu ao ad
  have tH:q<ops.size:=by omega
  have acJ:u0 ops L:=fun k o bh bY e he ar=>by
   have rI:=(Array.getElem?_eq_some_iff.1 bh).1
   have:=DU b9 bh he ar
   have:=(gu k rI).1 bY
   exact(gu e.on (by omega)).2 (by omega)
  have xt:q∈Region.ready .any ops L:=mem_ready.2 ⟨by
   rw[w2 (by omega) true false]
   cases e:L.getD q false with
   |false=>rfl
   |true=>have:=(gu q tH).1 e;omega,ops[q],Array.getElem?_eq_getElem tH,fun e he ar=>by
    have:=DU b9 (Array.getElem?_eq_getElem tH) he ar
    exact(gu e.on (by omega)).2 this⟩
  refine⟨fun h=>(by rw[h]at xt;cases xt),fun i hi=> ?_⟩
  obtain⟨h0,o,bh,_⟩:=mem_ready.1 hi
  have gI:=(Array.getElem?_eq_some_iff.1 bh).1
  rw[w2 (by omega) true false]at h0
  have agQ:q≤i:=by
   rcases Nat.lt_or_ge i q with h|h
   ·rw[(gu i gI).2 h]at h0;cases h0
   ·exact h
  have agR:i=q:=by
   rcases Nat.eq_or_lt_of_le agQ with h|h
   ·exact h.symm
   ·have:=DT acJ hi q (LF (aS i (by omega) gI) h)
    have:=(gu q tH).1 this
    omega
  subst agR
  have Uo:i<l.length:=by omega
  obtain⟨jX,hi',hex⟩:=aB.get (i:=i) (y:=l[i]) (List.getElem?_eq_getElem Uo)
  rw[List.getElem?_range gI]at hi'
  simp only[Option.some.injEq]at hi'
  subst hi'
  obtain⟨o',hr,tG⟩:=hex
  rw[List.drop_eq_getElem_cons Uo]at ad
  refine aaE cE ao bR hr tG ad fun σ' b2 w' rd' β' bY ct=> ?_
  refine cm (i+1) (by omega) (by omega) (by simpa using ay) (fun j az=> ?_) ct bY
  rw[EN (by omega)]
  by_cases e:j=i
  ·subst e;simp
  ·rw[if_neg e,gu j az];omega
theorem NC {b:Array Nat} {l:List bE} {i j:Nat} {y:bE} (az:l[j]? =some y) (dX:j≠i) (bh:ordered b i j=false) {d:Nat} (aC:d∈y.writes):d∈q9 b l i:=by
 refine List.mem_append_left _ ?_
 simp only[List.mem_flatMap,List.mem_filter]
 refine⟨(y,j),⟨?_,?_⟩,aC⟩
 ·rw[List.mem_zipIdx_iff_getElem?];exact az
 ·simp[dX,bh]
theorem O1 {b:Array Nat} {l:List bE} {i j:Nat} {x y:bE} (hi:l[i]? =some x) (az:l[j]? =some y) (dX:j≠i) (bh:ordered b i j=false) (ay:x.sK=true) (hm:y.hX=false):q9 b l i≠[]:=by
 unfold q9
 rw[if_pos]
 ·simp
 ·rw[hi]
  simp only[Option.map_some,Option.getD_some,ay,Bool.true_and,List.any_eq_true,Prod.exists]
  exact⟨y,j,by rw[List.mem_zipIdx_iff_getElem?];exact az,by simp[dX,bh,hm]⟩
theorem ZL (b:Array Nat) (i j:Nat):ordered b i j=ordered b j i:=by
 unfold ordered;rw[Nat.max_comm,Nat.min_comm]
theorem acK {b:Array Nat} {l:List bE} (kX:wX b l=true) {i j:Nat} {x y:bE} (hi:l[i]? =some x) (az:l[j]? =some y) (bp:i<j) (bh:ordered b i j=false):FV x y (q9 b l i) (q9 b l j):=by
 simp only[wX,List.all_eq_true,Prod.forall]at kX
 have:=kX x i (by rw[List.mem_zipIdx_iff_getElem?];exact hi) y j (by rw[List.mem_zipIdx_iff_getElem?];exact az)
 simp only[bh,Bool.or_false,Bool.or_eq_true,decide_eq_true_eq]at this
 have h2:Fv x y=true:=by rcases this with h|h; · omega
                         ·exact h
 simp only[Fv,Bool.and_eq_true]at h2
 obtain⟨⟨h1,h2⟩,al⟩:=h2
 have cW:∀d,x.dst=some d→d∉y.kJ:=fun d aC=>by rw[aC]at h1;simpa using h1
 have dy:∀d,y.dst=some d→d∉x.kJ:=fun d aC=>by rw[aC]at h2;simpa using h2
 by_cases hm:x.hX=true∨y.hX=true
 ·exact .inr ⟨⟨cW,dy⟩,hm⟩
 ·have ah:x.hX=false:=by cases e:x.hX with|false=>rfl|true=>exact absurd (.inl e) hm
  have hy:y.hX=false:=by cases e:y.hX with|false=>rfl|true=>exact absurd (.inr e) hm
  have hr:ordered b j i=false:=by rw[ZL];exact bh
  refine .inl ⟨cW,dy,fun d aC mI=> ?_,fun ay=>O1 hi az (by omega) bh ay hy,fun ay=>O1 az hi (by omega) hr ay ah,fun d aC=>NC az (by omega) bh aC,fun d aC=>NC hi (by omega) hr aC⟩
  simp only[ah,hy,Bool.or_eq_true,Bool.false_eq_true,false_or,List.all_eq_true]at al
  have:=al d aC
  simp at this
  exact this mI
def tag (b:Array Nat) (l:List bE) (x:bE×Nat):bE×List Nat:=(x.1,q9 b l x.2)
theorem ND (cE:aO P aF Γ) {M:Nat} (bR:M≤N) {l:List bE} (aB:iF (fun i lo=>∃o,ops[i]? =some o∧lv P M ops o=some lo) (List.range ops.size) l) (b9:uP ops=true)
 {p:Nat} (tI:p≤ops.size) (aS:∀j,p≤j→j<ops.size→uI (Region.before ops) j=true) (kX:wX (Region.before ops) (l.take p)=true) {K:St→Prop} {Q:Exit→Act→World→Prop}
 (cn:∀a w,hb N aK aF R K a w→Q .normal a w):
 ∀(fuel:Nat) {rem:List (bE×Nat)} {L:Array Bool} {σ:St} {a:Act} {w:World} {rd:Mem} {β:bC},rem.Sublist (l.take p).zipIdx→fuel=rem.length+(ops.size - p)→L.size=ops.size→u0 ops L→
  (∀i o,(l.take p)[i]? =some o→((o,i)∈rem↔L.getD i false=false))→(∀i,p≤i→i<ops.size→L.getD i false=false)→
  a8 N aK aF R σ a w rd β→cG Γ (fA Γ K (l.drop p)) (rem.map (tag (Region.before ops) (l.take p))) σ→wpAny P .any ops Q fuel L a w:=by
 intro fuel
 have hlen:l.length=ops.size:=by rw[←aB.length,List.length_range]
 have Cm:(l.take p).length=p:=by rw[List.length_take];omega
 induction fuel with
 |zero=>
  intro rem L σ a w rd β vj hf ay iI gI fH ao ad
  have xP:rem=[]:=List.eq_nil_of_length_eq_zero (by omega)
  subst xP
  refine NB cE bR aB b9 aS cn 0 p (Nat.le_refl _) (by omega) ay (fun i hi=>⟨fun _=>by omega,fun H4=> ?_⟩) ao ad
  have bb:(l.take p)[i]? =some ((l.take p)[i]'(by omega)):=List.getElem?_eq_getElem (by omega)
  cases e:L.getD i false with
  |true=>rfl
  |false=>have:=(gI i _ bb).2 e;cases this
 |succ fuel cm=>
  intro rem L σ a w rd β vj hf ay iI gI fH ao ad
  cases xP:rem with
  |nil=>
   subst xP
   refine NB cE bR aB b9 aS cn (fuel+1) p (Nat.le_refl _) (by simp at hf;omega) ay (fun i hi=>⟨fun he=> ?_,fun H4=> ?_⟩) ao ad
   ·rcases Nat.lt_or_ge i p with h|h
    ·exact h
    ·rw[fH i h hi]at he;cases he
   ·have bb:(l.take p)[i]? =some ((l.take p)[i]'(by omega)):=List.getElem?_eq_getElem (by omega)
    cases e:L.getD i false with
    |true=>rfl
    |false=>have:=(gI i _ bb).2 e;cases this
  |cons m7 rest=>
   have xe:rem.Pairwise fun a b=>a.2<b.2:=(Mv _ 0).sublist vj
   have Bs:∀{o i},(o,i)∈rem→(l.take p)[i]? =some o:=fun {o i} h=>by
    have:=vj.subset h
    rwa [List.mem_zipIdx_iff_getElem?]at this
   have Up:m7∈rem:=by rw[xP];simp
   have Sp:=Bs (o:=m7.1) (i:=m7.2) Up
   have alp:m7.2<p:=by
    have:=(List.getElem?_eq_some_iff.1 Sp).1
    omega
   have Uq:L.getD m7.2 false=false:=(gI _ _ Sp).1 Up
   have xt:m7.2∈Region.ready .any ops L:=mem_ready.2 ⟨by rw[w2 (by omega) true false];exact Uq,ops[m7.2]'(by omega),Array.getElem?_eq_getElem _,fun e he ar=>by
    have bp:=DU b9 (Array.getElem?_eq_getElem (by omega)) he ar
    have bb:(l.take p)[e.on]? =some ((l.take p)[e.on]'(by omega)):=List.getElem?_eq_getElem (by omega)
    cases dZ:L.getD e.on false with
    |true=>rfl
    |false=>
     have hm:=(gI _ _ bb).2 dZ
     rw[xP]at hm xe
     rcases List.mem_cons.1 hm with h|h
     ·rw[←h]at bp;simp only at bp;omega
     ·have:=(List.pairwise_cons.1 xe).1 _ h
      simp only at this;omega⟩
   refine⟨fun h=>(by rw[h]at xt;cases xt),fun i hi=> ?_⟩
   obtain⟨h0,o,bh,_⟩:=mem_ready.1 hi
   have Sq:=(Array.getElem?_eq_some_iff.1 bh).1
   rw[w2 (by omega) true false]at h0
   have H4:i<p:=by
    rcases Nat.lt_or_ge i p with h|h
    ·exact h
    ·have:=DT iI hi m7.2 (LF (aS i h Sq) (by omega))
     rw[Uq]at this;cases this
   have bb:(l.take p)[i]? =some ((l.take p)[i]'(by omega)):=List.getElem?_eq_getElem (by omega)
   generalize (l.take p)[i]'(by omega)=lo at bb
   have hm:(lo,i)∈rem:=(gI _ _ bb).2 h0
   obtain⟨xs,r,qW⟩:=List.append_of_mem hm
   rw[qW]at xe
   have tx:∀x∈xs,x.2<i:=fun x ah=>by
    have:=(List.pairwise_append.1 xe).2.2 x ah (lo,i) (by simp)
    exact this
   have tz:∀x∈r,i<x.2:=fun x ah=>by
    have:=(List.pairwise_cons.1 (List.pairwise_append.1 xe).2.1).1 x ah
    exact this
   have agS:l[i]? =some lo:=by
    have Ur:=bb
    rw[List.getElem?_take]at Ur
    simpa [H4]using Ur
   obtain⟨jX,hi',hex⟩:=aB.get agS
   rw[List.getElem?_range Sq]at hi'
   simp only[Option.some.injEq]at hi'
   subst hi'
   obtain⟨o',hr,tG⟩:=hex
   rw[qW,List.map_append,List.map_cons]at ad
   have adu:=Mu (y:=lo) (ny:=q9 (Region.before ops) (l.take p) i) (xs:=xs.map (tag (Region.before ops) (l.take p))) (r:=r.map (tag (Region.before ops) (l.take p))) (fun x ah=>by
    obtain⟨z,bg,rfl⟩:=List.mem_map.1 ah
    have vA:(z.1,z.2)∈rem:=by rw[qW];simp[bg]
    have Us:=Bs vA
    have bp:=tx z bg
    refine acK kX Us bb bp ?_
    cases ar:ordered (Region.before ops) z.2 i with
    |false=>rfl
    |true=>
     unfold ordered at ar
     rw[Nat.max_eq_right (by omega),Nat.min_eq_left (by omega)]at ar
     have:=DT iI hi z.2 ar
     rw[(gI _ _ Us).1 vA]at this
     cases this) ad
   refine aaD cE ao bR hr tG adu fun σ' b2 w' rd' β' bY ct=> ?_
   rw[←List.map_append]at bY
   refine cm (rem:=xs++r) ?_ ?_ (by simpa using ay) (aaC iI hi) (fun k ok aez=> ?_) (fun k agT rI=> ?_) ct bY
   ·refine List.Sublist.trans ?_ vj
    rw[qW]
    exact List.Sublist.append (List.Sublist.refl xs) (List.sublist_cons_self _ _)
   ·rw[qW]at hf
    simp only[List.length_append,List.length_cons]at hf⊢
    omega
   ·rw[EN (by omega)]
    by_cases e:k=i
    ·subst e
     rw[if_pos rfl]
     constructor
     ·intro h
      rcases List.mem_append.1 h with h|h
      ·have:=tx _ h;simp only at this;omega
      ·have:=tz _ h;simp only at this;omega
     ·intro h;cases h
    ·rw[if_neg e,←gI k ok aez,qW]
     simp only[List.mem_append,List.mem_cons,Prod.mk.injEq,e,and_false,false_or]
   ·rw[EN (by omega),if_neg (by omega)]
    exact fH k agT rI
end
end RV
namespace RV
open Go Go.RowKit
section
variable {N:Nat} {aK:dU} {aF:Mem} {R:bC} {σ σ':St} {a:Act} {w w':World} {rd rd':Mem} {β β':bC} {P:Program} {Γ:Env} {ops:Array Oper}
theorem aaF {c:Code} {Q:Exit→Act→World→Prop} (J:Nat→Act→World→Prop) (n:Nat) (h₀:J n a w)
 (round:∀n a w,J n a w→c.wp P (Exit.then (fun b2 w'=>∃m,m<n∧J m b2 w') Q) a w):(Code.loop c).wp P Q a w:=by
 intro b k cs
 have key:∀n a w,J n a w→
  ∃e b2 w',Q e b2 w'∧Arrives P (lone (b.at a (.code c:: .inLoop c::k)) cs w) b k cs e b2 w':=by
  intro n
  induction n using Nat.strongRecOn with
  |_ n cm=>
   intro a w fZ
   obtain⟨e,fV,fW,aZ,eZ⟩:=round n a w fZ b (.inLoop c::k) cs
   cases e with
   |normal=>
    obtain⟨m,bp,FX⟩:=aZ
    obtain⟨s8,s9,ta,sX,sN⟩:=cm m bp fV fW FX
    exact⟨s8,s9,ta,sX,.of_steps (Steps.trans eZ (.one step_inLoop)) sN⟩
   |exit id=>exact⟨_,fV,fW,aZ,.pass (x:= .inLoop c) rfl (fun _ _=> .inl (by simp)) eZ⟩
   |goto l=>exact⟨_,fV,fW,aZ,.pass (x:= .inLoop c) rfl (fun _ _=> .inl (by simp)) eZ⟩
   |ret=>exact⟨_,fV,fW,aZ,.pass (x:= .inLoop c) rfl (fun _ _=> .inl (by simp)) eZ⟩
   |panic qv=>exact⟨_,fV,fW,aZ,.pass (x:= .inLoop c) rfl (fun _ _=> .inl (by simp)) eZ⟩
   |outgrown=>exact⟨_,fV,fW,aZ,.pass (x:= .inLoop c) rfl (fun _ _=> .inl (by simp)) eZ⟩
 obtain⟨e,b2,w',aZ,eZ⟩:=key n a w h₀
 exact⟨e,b2,w',aZ,.of_steps (.one step_loop) eZ⟩
def vk (N:Nat) (aK:dU) (aF:Mem) (R:bC) (Q:eg→St→Prop):Exit→Act→World→Prop
 | .normal,a,w=>hb N aK aF R (Q .normal) a w
 | .exit id,a,w=>hb N aK aF R (Q (.exit id)) a w
 | .ret,a,w=>hb N aK aF R (Q .ret) a w
 |_,_,_=>False
theorem Ed {M:Nat} {id:Nat} {drawn:Bool} {lc:au} (h:dv P M (.region id ops drawn)=some lc):
 ∃l,pz P M ops ops.toList=some l∧((drawn=false∧lc= .dc l)∨(drawn=true∧wX (Region.before ops) (l.take (ops.size - hK (Region.before ops) ops.size))=true∧uP ops=true∧
  lc= .jh (uX (Region.before ops) (l.take (ops.size - hK (Region.before ops) ops.size))) (l.drop (ops.size - hK (Region.before ops) ops.size)))):=by
 cases drawn with
 |false=>
  obtain⟨l,h1,rfl⟩:=map_some h
  exact⟨l,h1,.inl ⟨rfl,rfl⟩⟩
 |true=>
  simp only[dv]at h
  split at h
  ·rename_i l aB
   split at h
   ·rename_i ao
    simp only[Bool.and_eq_true]at ao
    simp only[Option.some.injEq]at h
    exact⟨l,aB,.inr ⟨rfl,ao.1.2,ao.2,h.symm⟩⟩
   ·cases h
  ·cases h
theorem ZM (hm:P.follows .mixedOrders=true) (cE:aO P aF Γ) {M:Nat} (bR:M≤N) {id:Nat} {drawn:Bool} {lc:au} (ae:dv P M (.region id ops drawn)=some lc) {Q:eg→St→Prop}
 (h:a8 N aK aF R σ a w rd β) (ad:bZ Γ lc Q σ):(Code.region id ops drawn).wp P (vk N aK aF R Q) a w:=by
 obtain⟨l,aB,⟨rfl,rfl⟩|⟨rfl,kX,b9,rfl⟩⟩:=Ed ae
 ·simp only[bZ]at ad
  exact wp_region (zS cE bR (fun _ _ h=>h) _ _ (wD aB) h ad)
 ·simp only[bZ]at ad
  refine wp_region_any hm ?_
  have fB:=wD aB
  have hlen:l.length=ops.size:=by rw[←fB.length,List.length_range]
  obtain⟨β',aC⟩:=a8.je (uX (Region.before ops) (l.take (ops.size - hK (Region.before ops) ops.size))) h
  have Cm:(l.take (ops.size - hK (Region.before ops) ops.size)).length=ops.size - hK (Region.before ops) ops.size:=by rw[List.length_take];omega
  have gF:∀i,(Array.replicate ops.size false).getD i false=false:=fun i=>by
   rw[Array.getD_eq_getD_getElem?,Array.getElem?_replicate]
   split<;>rfl
  refine ND cE bR fB b9 (Nat.sub_le _ _) (fun j h1 h2=>D4 h1 h2) kX (fun _ _ h=>h) ops.size (rem:=(l.take (ops.size - hK (Region.before ops) ops.size)).zipIdx) (List.Sublist.refl _) ?_ (by simp)
   (fun k o bh bY=>by rw[gF]at bY;cases bY) (fun i o H5=> ?_) (fun i _ _=>gF i) aC.drew (by
    have:uX (Region.before ops) (l.take (ops.size - hK (Region.before ops) ops.size))=(l.take (ops.size - hK (Region.before ops) ops.size)).zipIdx.map (tag (Region.before ops) (l.take (ops.size - hK (Region.before ops) ops.size))):=rfl
    rw[←this];exact ad)
  ·rw[List.length_zipIdx,Cm];omega
  ·rw[List.mem_zipIdx_iff_getElem?]
   simp only[gF,iff_true]
   exact H5
theorem wN (hm:P.follows .mixedOrders=true) (cE:aO P aF Γ) {M:Nat} (bR:M≤N):∀(c:Code) {lc:au} {Q:eg→St→Prop} {σ:St} {a:Act} {w:World} {rd:Mem} {β:bC},dv P M c=some lc→
 a8 N aK aF R σ a w rd β→bZ Γ lc Q σ→c.wp P (vk N aK aF R Q) a w:=by
 intro c
 induction c with
 |skip=>
  intro lc Q σ a w rd β ae h ad
  simp only[dv,Option.some.injEq]at ae;subst ae
  exact wp_skip ⟨σ,rd,β,ad,h⟩
 |region id ops drawn=>
  intro lc Q σ a w rd β ae h ad
  exact ZM hm cE bR ae h ad
 |seq x y jo lR=>
  intro lc Q σ a w rd β ae h ad
  simp only[dv]at ae
  split at ae
  ·rename_i cP ga ah hy
   simp only[Option.some.injEq]at ae;subst ae
   simp only[bZ]at ad
   refine wp_seq (wp_mono (jo ah h ad) fun e b2 w' he=> ?_)
   cases e with
   |normal=>obtain⟨σ',rd',β',h1,h2⟩:=he;exact lR hy h2 h1
   |exit id=>exact he
   |ret=>exact he
   |_=>exact he.elim
  ·cases ae
 |cond Cn x y jo lR=>
  intro lc Q σ a w rd β ae h ad
  simp only[dv]at ae
  split at ae
  ·rename_i aT cP ga ao ah hy
   simp only[Option.some.injEq]at ae;subst ae
   simp only[bZ]at ad
   have aq:=ef h ao
   split at ad
   ·rename_i t tJ
    rw[tJ]at aq
    simp only[aP,bn]at aq
    cases t with
    |true=>exact wp_cond_true aq (jo ah h (ad.1 rfl))
    |false=>exact wp_cond_false aq (lR hy h (ad.2 rfl))
   ·exact ad.elim
  ·cases ae
 |block id x cm=>
  intro lc Q σ a w rd β ae h ad
  simp only[dv]at ae
  obtain⟨cP,ah,rfl⟩:=map_some ae
  simp only[bZ]at ad
  refine wp_block (wp_mono (cm ah h ad) fun e b2 w' he=> ?_)
  cases e with
  |normal=>exact he
  |exit j=>
   obtain⟨σ',rd',β',h1,h2⟩:=he
   simp only at h1
   unfold Exit.inBlock
   simp only
   split at h1
   ·rename_i az;rw[if_pos az];exact⟨σ',rd',β',h1,h2⟩
   ·rename_i az;rw[if_neg az];exact⟨σ',rd',β',h1,h2⟩
  |ret=>exact he
  |_=>exact he.elim
 |loop x cm=>
  intro lc Q σ a w rd β ae h ad
  simp only[dv]at ae
  obtain⟨cP,ah,rfl⟩:=map_some ae
  simp only[bZ,sQ]at ad
  obtain⟨I,dN,h0,fZ⟩:=ad
  refine aaF (fun n a w=>hb N aK aF R (fun s=>I s∧dN s=n) a w) (dN σ) ⟨σ,rd,β,⟨h0,rfl⟩,h⟩ ?_
  rintro n a w ⟨s,rd',β',⟨h1,rfl⟩,h2⟩
  refine wp_mono (cm ah h2 (fZ s h1)) fun e b2 w' he=> ?_
  cases e with
  |normal=>
   obtain⟨df,e6,iq,⟨br,bw⟩,c3⟩:=he
   exact⟨dN df,bw,df,e6,iq,⟨br,rfl⟩,c3⟩
  |exit j=>exact he
  |ret=>exact he
  |_=>exact he.elim
 |exit id=>
  intro lc Q σ a w rd β ae h ad
  simp only[dv,Option.some.injEq]at ae;subst ae
  exact wp_exit ⟨σ,rd,β,ad,h⟩
 |ret=>
  intro lc Q σ a w rd β ae h ad
  simp only[dv,Option.some.injEq]at ae;subst ae
  exact wp_ret ⟨σ,rd,β,ad,h⟩
 |_=>intro lc Q σ a w rd β ae h ad;cases ae
end
end RV
namespace RV
open Go Go.RowKit
section
variable {N:Nat} {aK:dU} {aF:Mem} {R:bC} {σ σ':St} {a:Act} {w w':World} {rd rd':Mem} {β β':bC} {P:Program} {Γ:Env} {ops:Array Oper}
theorem hl.toBelow {aK w:World} (h:hl (fun _=>none) aK w):Below aK.heap.size aK w:=by
 refine⟨h.os,h.tape,h.output,h.size,fun k ad=> ?_⟩
 rcases h.block k ad with e|⟨c,t,cd,c',h1,h2,al,aE⟩
 ·exact e
 ·have:c'=c:=by
   apply Array.ext_getElem?
   intro i
   exact aE i (by simp)
  rw[h1,h2,this]
theorem NF {ds:List D} {vs:Array Value} (aq:bI rd ds vs.toList) (k:Nat) (t:Nat):
 aP rd β ((mG ds).af t) ((vs++Array.replicate k undef).getD t undef):=by
 have hlen:=qI aq
 simp only[Array.length_toList]at hlen
 simp only[mG]
 cases aC:ds[t]? with
 |some d=>
  obtain⟨v,aA,H6⟩:=EH aq aC
  simp only[Array.getElem?_toList]at aA
  have ae:=(Array.getElem?_eq_some_iff.1 aA).1
  have:(vs++Array.replicate k undef).getD t undef=v:=by
   rw[Array.getD_eq_getD_getElem?,Array.getElem?_append_left ae,aA];rfl
  rw[this]
  exact ml H6
 |none=>
  have ae:vs.size≤t:=by
   have:=List.getElem?_eq_none_iff.1 aC
   omega
  have:(vs++Array.replicate k undef).getD t undef=undef:=by
   rw[Array.getD_eq_getD_getElem?,Array.getElem?_append_right ae,Array.getElem?_replicate]
   split<;>rfl
  rw[this]
  simp only[aP]
theorem z7 {ds:List D} {vs:Array Value} (hm:bT rd w.cell?) (aq:bI rd ds vs.toList) (k:Nat) (ad:(vs++Array.replicate k undef).size=N):
 a8 N w.base rd (fun _=>none) (mG ds) { tmps:=vs++Array.replicate k undef,defers:=[] } w rd (fun _=>none)where
 size:=ad
 defers:=rfl
 cw:=hl.refl _ _
 c4:=fun k o ad=>by cases ad
 cJ:=hm
 dd:=bT.refl _
 aF:=fun a v h _=>h
 dV:=fun i r b h=>by cases h
 dW:=fun t=>NF aq k t
 box:=fun i r h=>by cases h
 dP:=fun i b h=>by cases h
 dS:=fun i j aD ha _ h=>by cases h
theorem aaG (h:a8 N aK aF R σ a w rd β) {r:ResultVar} {l:bl} (ae:Fw P r=some l) {v:ag} (aB:vf σ l=some v):
 ∃u,(match r with| .tmp t=>pure (a.tmps.getD t undef)| .cell x t=>do loadVar t (←asAddr (a.tmps.getD x undef)):Sem Value).run P w= .ok u w∧aP rd β v u:=by
 cases r with
 |tmp t=>
  simp only[Fw,Option.some.injEq]at ae;subst ae
  simp only[vf,Option.some.injEq]at aB;subst aB
  exact⟨_,rfl,h.dW t⟩
 |cell x t=>
  obtain⟨Dp,aA,rfl⟩:=map_some ae
  obtain⟨n,g⟩:=Dp
  simp only[vf]at aB
  have aq:=h.dW x
  split at aB
  ·rename_i i off ah
   rw[ah]at aq
   simp only[aP]at aq
   obtain⟨rg,fI,hu⟩:=aq
   split at aB
   ·rename_i f e cs ar
    obtain⟨cR,gR,b9,_⟩:=h.box i rg fI
    rw[ar]at gR;simp only[Option.some.injEq]at gR;subst gR
    have eO:=b9.2
    have same:∀{u:Value},(Instr.loadAt t (.pointer (some (cellAt rg.bS (rg.off+off))))).run P w= .ok u w→(do loadVar t (←asAddr (a.tmps.getD x undef)):Sem Value).run P w= .ok u w:=by
     intro u iH
     rw[hu]
     simpa only[Instr.loadAt,Instr.sureAddr,asAddr,Sem.run_bind,Sem.run_pure,Result.andThen_ok]using iH
    cases g with
    |true=>
     simp only[if_true]at aB
     split at aB
     ·rename_i hle
      simp only[Option.some.injEq]at aB;subst aB
      obtain⟨u,br,bw,_⟩:=zO (P:=P) aA ((eO.drop off).take n) (by simp;omega)
      exact⟨u,same br,bw rfl⟩
     ·cases aB
    |false=>
     simp only[Bool.false_eq_true,if_false]at aB
     have aH:=EE aA
     subst aH
     have bp:=(List.getElem?_eq_some_iff.1 aB).1
     have Sr:(cs.drop off).take 1=[v]:=by
      rw[List.drop_eq_getElem_cons bp]
      rw[List.getElem?_eq_getElem bp]at aB
      simp only[Option.some.injEq]at aB
      simp[aB]
     obtain⟨u,br,_,c3⟩:=zO (P:=P) aA ((eO.drop off).take 1) (by rw[Sr];rfl)
     exact⟨u,same br,c3 rfl v Sr⟩
   ·cases aB
  ·cases aB
theorem wF {α:Type} {f:α→Sem Value} {us:List Value} :∀(l:List α),iF (fun x u=>(f x).run P w= .ok u w) l us→(l.mapM f).run P w= .ok us w:=by
 intro l h
 induction h with
 |nil=>rfl
 |cons h0 _ cm=>simp only[List.mapM_cons,Sem.run_bind,h0,Result.andThen_ok,cm,Sem.run_pure]
theorem uz (h:a8 N aK aF R σ a w rd β):∀{rs:List ResultVar} {ls:List bl} {vs:List ag},qS P rs=some ls→mr σ ls=some vs→
 ∃us,iF (fun(r:ResultVar) u=>(match r with| .tmp t=>pure (a.tmps.getD t undef)| .cell x t=>do loadVar t (←asAddr (a.tmps.getD x undef)):Sem Value).run P w= .ok u w) rs us∧bN rd β vs us
 |[],_,_,ae,aB=>by
  simp only[qS,Option.some.injEq]at ae;subst ae
  simp only[mr,Option.some.injEq]at aB;subst aB
  exact⟨[],.nil,by simp only[bN]⟩
 |r::rs,_,_,ae,aB=>by
  simp only[qS]at ae
  split at ae
  ·rename_i l ls h1 h2
   simp only[Option.some.injEq]at ae;subst ae
   simp only[mr]at aB
   split at aB
   ·rename_i v vs al aE
    simp only[Option.some.injEq]at aB;subst aB
    obtain⟨u,br,bw⟩:=aaG (P:=P) h h1 al
    obtain⟨us,c3,gW⟩:=uz h h2 aE
    exact⟨u::us,.cons br c3,by simp only[bN];exact⟨u,us,rfl,bw,gW⟩⟩
   ·cases aB
  ·cases ae
theorem EO {ds:List D} {us:List Value} (h:bI rd ds us):bn rd (q7 ds) (if dZ:us.toArray.size=1 then us.toArray[0]else .tuple us.toArray):=by
 match ds,us,h with
 |[],us,h=>simp only[bI]at h;subst h;simp only[q7];simp[bn,bI]
 |[d],us,h=>
  simp only[bI]at h
  obtain⟨v,ki,rfl,h1,rfl⟩:=h
  simpa [q7]using h1
 |d::k8::ds,us,h=>
  have aB:=qI h
  have:¬us.toArray.size=1:=by simp[aB]
  rw[dif_neg this]
  simp only[q7,bn]
  exact⟨_,rfl,by simpa using h⟩
theorem xu {fn:Func} {lS:List bl} (e7:qS P fn.results.toList=some lS) {C:bq} (bh:C.own=false) {ds:List D} {M:Nat} :hb M w.base rd (fun _=>none) (fun σ=>iD lS σ fun d=>d=C.res ds) a w'→
 a.defers=[]∧∃v,(results fn a.tmps).run P w'= .ok v w'∧(∃ej,Ending.returned v= .returned ej∧Below w.heap.size w w'∧ra C rd w w' (C.res ds) ej):=by
 have vy:w.base.heap.size=w.heap.size:=rfl
 rintro⟨σ,rd',β,aq,cT⟩
 refine⟨cT.defers,?_⟩
 unfold iD at aq
 split at aq
 ·rename_i iK aB
  obtain⟨xQ,aq⟩:=aq
  split at aq
  ·rename_i mH fX
   obtain⟨us,br,bw⟩:=uz cT e7 aB
   have ry:=toDs_rep cT (S:=hn β iK) iK us mH fX bw fun i r aL hi dJ eI=>⟨i,r,hi,dJ,eI⟩
   have hle:bT (plus w' (hn β iK) rd') (hT w w' rd):=fun aL v e=>by
    unfold hT
    split
    ·rename_i bp
     by_cases ay:hn β iK aL
     ·exfalso
      obtain⟨i,r,hi,dJ,a2⟩:=ay
      obtain⟨b,ah,_,_,fQ,_⟩:=cT.box i r dJ
      have:=(fQ (qP iK xQ i b hi ah)).1
      have:=a2.1
      omega
     ·rw[oi ay]at e
      exact cT.aF aL v e bp
    ·exact oo cT.cJ aL v e
   refine⟨_,?_,_,rfl,cT.cw.toBelow,fun _=>aq▸EO (bI.mono hle _ _ ry),fun ao=>by rw[bh]at ao;cases ao⟩
   have nH:=wF (P:=P) (w:=w') fn.results.toList br
   unfold results
   rw[Array.mapM_eq_mapM_toList]
   simp only[Sem.run_bind,Sem.run_map]
   exact congrArg (fun r:Result (List Value)=>(r.andThen fun a w'=>Result.ok a.toArray w').andThen fun(a:Array Value) w'=>Sem.run P (pure (if h:a.size=1 then a[0]else Value.tuple a)) w') nH
  ·exact aq.elim
 ·exact aq.elim
theorem bK (hm:P.follows .mixedOrders=true) {B:Mem} (cE:aO P B Γ) {f:Nat} {fn:Func} (gJ:P.funcs[f]? =some fn) (nT:(fn.name== "runtime.NumGoroutine")=false) {lc:au} {rs:List bl} (hf:aV P f=some (lc,rs)) {C:bq}
 (h:∀ds,C.pre ds→bH Γ lc rs ds fun d=>d=C.res ds) (bh:C.own=false:=by rfl):my P B f C:=by
 simp only[aV,gJ]at hf
 split at hf
 ·rename_i c ao
  split at hf
  ·rename_i l lS ae e7
   simp only[Option.some.injEq,Prod.mk.injEq]at hf
   obtain⟨rfl,rfl⟩:=hf
   refine⟨⟨fn,gJ,nT,by rw[ao];rfl⟩,fun ds aS w rd vs aN lH gF=> ?_⟩
   have ad:=h ds aS
   unfold bH at ad
   refine calls_of_wp gJ ao ?_
   have vy:w.base.heap.size=w.heap.size:=rfl
   have nB:=z7 (N:=(vs++Array.replicate (fn.ntmps - vs.size) undef).size) lH gF (fn.ntmps - vs.size) rfl
   refine wp_mono (wN hm (cE.mono aN) (M:=fn.ntmps) (by simp;omega) c ae nB ad) ?_
   intro e a w' he
   have done:=fun h=>xu (a:=a) (w':=w') e7 bh (ds:=ds) (M:=(vs++Array.replicate (fn.ntmps - vs.size) undef).size) (w:=w) (rd:=rd) h
   cases e with
   |normal=>exact done he
   |ret=>exact done he
   |exit id=>obtain⟨_,_,_,h1,_⟩:=he;exact h1.elim
   |_=>exact he.elim
  ·cases hf
 ·cases hf
theorem P3 (hm:P.follows .mixedOrders=true) {B:Mem} (cE:aO P B Γ) {f:Nat} {fn:Func} (gJ:P.funcs[f]? =some fn) (nT:(fn.name== "runtime.NumGoroutine")=false) {lc:au} {rs:List bl} (hf:aV P f=some (lc,rs)) {C:bq}
 (h:∀ds,C.pre ds→xJ Γ lc rs ds fun d=>d=C.res ds) (bh:C.own=true:=by rfl):my P B f C:=by
 simp only[aV,gJ]at hf
 split at hf
 ·rename_i c ao
  split at hf
  ·rename_i l lS ae e7
   simp only[Option.some.injEq,Prod.mk.injEq]at hf
   obtain⟨rfl,rfl⟩:=hf
   refine⟨⟨fn,gJ,nT,by rw[ao];rfl⟩,fun ds aS w rd vs aN lH gF=> ?_⟩
   have ad:=h ds aS
   unfold xJ at ad
   refine calls_of_wp gJ ao ?_
   have vy:w.base.heap.size=w.heap.size:=rfl
   have nB:=z7 (N:=(vs++Array.replicate (fn.ntmps - vs.size) undef).size) lH gF (fn.ntmps - vs.size) rfl
   refine wp_mono (wN hm (cE.mono aN) (M:=fn.ntmps) (by simp;omega) c ae nB ad) ?_
   intro e a w' he
   have done:hb (vs++Array.replicate (fn.ntmps - vs.size) undef).size w.base rd (fun _=>none) (fun σ=>xI lS σ fun d=>d=C.res ds) a w'→
    a.defers=[]∧∃v,(results fn a.tmps).run P w'= .ok v w'∧(∃ej,Ending.returned v= .returned ej∧Below w.heap.size w w'∧ra C rd w w' (C.res ds) ej):=by
    rintro⟨σ,rd',β,aq,cT⟩
    refine⟨cT.defers,?_⟩
    unfold xI at aq
    split at aq
    ·rename_i t
     have aB:mr σ [.tmp t]=some [σ.af t]:=rfl
     obtain⟨us,br,bw⟩:=uz cT e7 aB
     simp only[bN]at bw
     obtain⟨v,ki,rfl,aA,rfl⟩:=bw
     have main:∀{i lo n:Nat} {c:BC} {d:D},σ.af t= .own i lo n→lo=0→σ.aw i=some ⟨false,false,c⟩→hL d=some (c,n)→d=C.res ds→E3 w w' (C.res ds) v:=by
      intro i lo n c d a1 jm a6 gS aC
      subst jm
      rw[a1]at aA
      simp only[aP]at aA
      obtain⟨A,cap,rfl,aH,hA⟩:=aA
      refine⟨c,n,A,cap,by rw[←aC];exact gS,rfl,aH,?_⟩
      rcases hA with h0|⟨r,hi,hA,mx⟩
      ·exact .inl h0
      ·obtain⟨b,ar,fR,rF,fQ,_⟩:=cT.box i r hi
       rw[a6]at ar
       simp only[Option.some.injEq]at ar
       subst ar
       obtain⟨cW,dy⟩:=fQ rfl
       refine .inr ⟨r,dy,cW,rF,?_,by rw[hA,Nat.zero_mul,Nat.add_zero],by have:=mx dy;omega⟩
       cases d with
       |ints k xs=>
        simp only[hL,Option.some.injEq,Prod.mk.injEq]at gS
        obtain⟨rfl,rfl⟩:=gS
        exact fR
       |flts xs=>
        simp only[hL,Option.some.injEq,Prod.mk.injEq]at gS
        obtain⟨rfl,rfl⟩:=gS
        exact fR
       |_=>simp[hL]at gS
     have u5:E3 w w' (C.res ds) v:=by
      split at aq
      ·rename_i i lo n a1
       split at aq
       ·rename_i k xs a6
        exact main a1 aq.1 a6 (by simp only[hL,aq.2.1]) aq.2.2
       ·rename_i xs a6
        exact main a1 aq.1 a6 (by simp only[hL,aq.2.1]) aq.2.2
       ·exact aq.elim
      ·exact aq.elim
     refine⟨_,?_,v,rfl,cT.cw.toBelow,(show ra C rd w w' (C.res ds) v from ⟨fun ao=>(by rw[bh]at ao;cases ao),fun _=>u5⟩)⟩
     have nH:=wF (P:=P) (w:=w') fn.results.toList br
     unfold results
     rw[Array.mapM_eq_mapM_toList]
     simp only[Sem.run_bind,Sem.run_map]
     exact congrArg (fun r:Result (List Value)=>(r.andThen fun a w'=>Result.ok a.toArray w').andThen fun(a:Array Value) w'=>Sem.run P (pure (if h:a.size=1 then a[0]else Value.tuple a)) w') nH
    ·exact aq.elim
   cases e with
   |normal=>exact done he
   |ret=>exact done he
   |exit id=>obtain⟨_,_,_,h1,_⟩:=he;exact h1.elim
   |_=>exact he.elim
  ·cases hf
 ·cases hf
end
end RV
namespace RV
open Go Go.RowKit
section
variable {N:Nat} {aK:dU} {aF:Mem} {R E:bC} {σ σ':St} {a:Act} {w w':World} {rd rd':Mem} {β β':bC} {P:Program} {Γ:Env} {ops:Array Oper}
theorem abi {as:List ag} {vs:Array Value} (aq:bN rd β as vs.toList) (k:Nat) (t:Nat) (cs:List BC):
 aP rd β ((oF as cs).af t) ((vs++Array.replicate k undef).getD t undef):=by
 have hlen:=qF aq
 simp only[Array.length_toList]at hlen
 simp only[oF]
 cases aC:as[t]? with
 |some d=>
  obtain⟨v,aA,H6⟩:=D8 aq aC
  simp only[Array.getElem?_toList]at aA
  have ae:=(Array.getElem?_eq_some_iff.1 aA).1
  have:(vs++Array.replicate k undef).getD t undef=v:=by
   rw[Array.getD_eq_getD_getElem?,Array.getElem?_append_left ae,aA];rfl
  rw[this]
  exact H6
 |none=>
  have ae:vs.size≤t:=by
   have:=List.getElem?_eq_none_iff.1 aC
   omega
  have:(vs++Array.replicate k undef).getD t undef=undef:=by
   rw[Array.getD_eq_getD_getElem?,Array.getElem?_append_right ae,Array.getElem?_replicate]
   split<;>rfl
  rw[this]
  simp only[aP]
theorem L6 {m:Nat} :∀{n k:Nat} {cs:List BC},nk σ m k n=some cs→cs.length=n∧∀(j:Nat) (c:BC),cs[j]? =some c→c.tidy (pH m)=true∧∃f,σ.aw (bF+k+j)=some ⟨f,true,c⟩
 |0,k,cs,h=>by simp only[nk,Option.some.injEq]at h;subst h;simp
 |n+1,k,cs,h=>by
  simp only[nk]at h
  split at h
  ·rename_i f c r ar aq
   split at h
   ·rename_i aS
    simp only[Option.some.injEq]at h;subst h
    obtain⟨h1,h2⟩:=L6 aq
    refine⟨by simp[h1],fun j c' az=> ?_⟩
    cases j with
    |zero=>simp only[List.getElem?_cons_zero,Option.some.injEq]at az;subst az;exact⟨aS,f,ar⟩
    |succ j=>
     have:=h2 j c' (by simpa using az)
     rw[show bF+(k+1)+j=bF+k+(j+1)by omega]at this
     exact this
   ·cases h
  ·cases h
theorem aaH {p:Nat→Bool} (fI:∀i,p i=true→β' i=β i) {r:cY} {c:BC} (ae:c.tidy p=true) (h:ey w rd β r c):ey w rd β' r c:=by
 cases c with
 |cells cs=>
  have key:∀(l:List ag) (o:Nat),ag.fT p l=true→cA w rd β r.bS o l→cA w rd β' r.bS o l:=by
   intro l
   induction l with
   |nil=>intro o _ _;trivial
   |cons v vs cm=>
    intro o ae H
    obtain⟨⟨u,e,H1⟩,et⟩:=H
    simp only[ag.fT,Bool.and_eq_true]at ae
    exact⟨⟨u,e,aP.congr v u (fun j az=>fI j (Nu v ae.1 j az)) H1⟩,cm (o+1) ae.2 et⟩
  exact⟨h.1,key cs _ ae h.2⟩
 |ints k xs=>exact h
 |flts xs=>exact h
 |recs sz xs=>exact h
theorem qX (hm:P.follows .mixedOrders=true) {B:Mem} (cE:aO P B Γ) {f:Nat} {fn:Func} (gJ:P.funcs[f]? =some fn) (nT:(fn.name== "runtime.NumGoroutine")=false) {lc:au} {rs:List bl} (hf:aV P f=some (lc,rs)) {C:fL}
 (h:∀as cs,C.pre as cs→nE Γ lc rs as cs fun d cs'=>d=C.res as cs∧cs'=C.out as cs):Ch P B f C:=by
 simp only[aV,gJ]at hf
 split at hf
 ·rename_i c ao
  split at hf
  ·rename_i l lS ae e7
   simp only[Option.some.injEq,Prod.mk.injEq]at hf
   obtain⟨rfl,rfl⟩:=hf
   refine⟨⟨fn,gJ,nT,by rw[ao];rfl⟩,fun as cs aS w rd regs vs rz aN lH gF gI Gd aeA=> ?_⟩
   have ad:=h as cs aS
   unfold nE at ad
   refine calls_of_wp gJ ao ?_
   have vy:w.base.heap.size=w.heap.size:=rfl
   have nB:a8 (vs++Array.replicate (fn.ntmps - vs.size) undef).size w.base rd (ht regs) (oF as cs) { tmps:=vs++Array.replicate (fn.ntmps - vs.size) undef,defers:=[] } w rd (ht regs):= {
    size:=rfl
    defers:=rfl
    cw:=hl.refl _ _
    c4:=fun k o ad=>by cases ad
    cJ:=lH
    dd:=bT.refl _
    aF:=fun a v h _=>h
    dV:=fun i r b hi ar bg aL eI=>by
     obtain⟨k,rfl,ad⟩:=Ae hi
     have bp:k<cs.length:=by rw[←rz];exact(List.getElem?_eq_some_iff.1 ad).1
     exact(gI k _ r (List.getElem?_eq_getElem bp) ad).2.2.2 aL eI
    dW:=fun t=>abi gF _ t cs
    box:=fun i r hi=>by
     obtain⟨k,rfl,ad⟩:=Ae hi
     have bp:k<cs.length:=by rw[←rz];exact(List.getElem?_eq_some_iff.1 ad).1
     obtain⟨h1,h2,al,aE⟩:=gI k _ r (List.getElem?_eq_getElem bp) ad
     refine⟨⟨false,true,cs[k]⟩,?_,h1,h2,(fun e=>by cases e),fun _=>⟨hi,al⟩⟩
     simp only[oF]
     rw[if_pos (by omega),show bF+k - bF=k by omega,List.getElem?_eq_getElem bp]
     rfl
    dP:=fun i b ar hi=>by
     simp only[oF]at ar
     split at ar
     ·rename_i hle
      cases ct:cs[i - bF]? with
      |none=>rw[ct]at ar;cases ar
      |some c'=>
       rw[ct]at ar
       simp only[Option.map_some,Option.some.injEq]at ar
       subst ar
       have bp:i - bF<regs.length:=by rw[rz];exact(List.getElem?_eq_some_iff.1 ct).1
       have bb:regs[i - bF]? =some none:=by
        rw[List.getElem?_eq_getElem bp]
        cases e:regs[i - bF]with
        |none=>rfl
        |some r=>
         have:=xr (regs:=regs) (k:=i - bF) (x:=some r) (by rw[List.getElem?_eq_getElem bp,e])
         rw[show bF+(i - bF)=i by omega,hi]at this
         cases this
       exact⟨fun _=>hi,Gd _ c' ct bb⟩
     ·cases ar
    dS:=aeA }
   refine wp_mono (wN hm (cE.mono aN) (M:=fn.ntmps) (by simp;omega) c ae nB ad) ?_
   intro e a w' he
   have done:hb (vs++Array.replicate (fn.ntmps - vs.size) undef).size w.base rd (ht regs) (fun σ=>iD lS σ fun d=>match nk σ cs.length 0 cs.length with
    |some cs'=>d=C.res as cs∧cs'=C.out as cs
    |none=>False) a w'→
    a.defers=[]∧∃v,(results fn a.tmps).run P w'= .ok v w'∧(∃ej rd',Ending.returned v= .returned ej∧hl (ht regs) w w'∧bT rd rd'∧bT rd' w'.cell?∧(∀aL v,rd' aL=some v→aL.block<w.heap.size→rd aL=some v)∧bn rd' (C.res as cs) ej∧
      (∀(k:Nat) (c:BC) (r:cY),(C.out as cs)[k]? =some c→regs[k]? =some (some r)→ey w' rd' (ht regs) r c)∧(∀(k:Nat) (c:BC),(C.out as cs)[k]? =some c→regs[k]? =some none→c.isNil=true)):=by
    rintro⟨σ,rd',β,aq,cT⟩
    refine⟨cT.defers,?_⟩
    unfold iD at aq
    split at aq
    ·rename_i iK aB
     obtain⟨xQ,aq⟩:=aq
     split at aq
     ·rename_i mH fX
      split at aq
      ·rename_i cs' aeB
       obtain⟨cq,rfl⟩:=aq
       obtain⟨ug,cV⟩:=L6 aeB
       obtain⟨us,br,bw⟩:=uz cT e7 aB
       have ry:=toDs_rep cT (S:=hn β iK) iK us mH fX bw fun i r aL hi dJ eI=>⟨i,r,hi,dJ,eI⟩
       have RB:bT rd w'.cell? :=fun aL v e=>by
        have bp:=qL (lH aL v e)
        have gl:=lH aL v e
        rcases cT.cw.block aL.block bp with e'|⟨c,t,cd,c',h1,h2,al,aE⟩
        ·rw[na e'];exact gl
        ·have h1:w.heap[aL.block]? =some (.cells c t cd):=h1
         simp only[World.cell?,h1]at gl
         simp only[World.cell?,h2]
         split at gl
         ·cases gl
         ·rename_i jN
          rw[if_neg jN]
          rw[aE aL.off fun j r az dJ=> ?_]
          ·exact gl
          ·obtain⟨k,rfl,ad⟩:=Ae az
           have bp:k<cs.length:=by rw[←rz];exact(List.getElem?_eq_some_iff.1 ad).1
           have eI:r.has aL:=dJ
           have:=(gI k _ r (List.getElem?_eq_getElem bp) ad).2.2.2 aL eI
           rw[e]at this;cases this
       let m:Mem:=fun aL=>match rd aL with|some v=>some v|none=>plus w' (hn β iK) rd' aL
       have hq:bT rd m:=fun aL v e=>by simp[m,e]
       have yl:bT m w'.cell? :=fun aL v e=>by
        simp only[m]at e
        split at e
        ·rename_i u hu;rw[←e];exact RB aL u hu
        ·exact oo cT.cJ aL v e
       have vF:bT (plus w' (hn β iK) rd') m:=fun aL v e=>by
        simp only[m]
        split
        ·rename_i u hu
         have h1:=RB aL u hu
         have h2:=oo cT.cJ aL v e
         rw[h1]at h2;exact h2
        ·exact e
       have agU:∀aL v,m aL=some v→aL.block<w.heap.size→rd aL=some v:=fun aL v e bp=>by
        simp only[m]at e
        split at e
        ·rename_i u hu;rw[hu];exact e
        ·by_cases ay:hn β iK aL
         ·exfalso
          obtain⟨i,r,hi,dJ,a2⟩:=ay
          obtain⟨b,ah,_,_,fQ,_⟩:=cT.box i r dJ
          have:=(fQ (qP iK xQ i b hi ah)).1
          have:=a2.1
          omega
         ·rw[oi ay]at e
          exact cT.aF aL v e bp
       refine⟨_,?_,_,m,rfl,cT.cw,hq,yl,agU,cq▸EO (bI.mono vF _ _ ry),fun k c r ct iE=> ?_,fun k c ct iE=> ?_⟩
       ·have nH:=wF (P:=P) (w:=w') fn.results.toList br
        unfold results
        rw[Array.mapM_eq_mapM_toList]
        simp only[Sem.run_bind,Sem.run_map]
        exact congrArg (fun r:Result (List Value)=>(r.andThen fun a w'=>Result.ok a.toArray w').andThen fun(a:Array Value) w'=>Sem.run P (pure (if h:a.size=1 then a[0]else Value.tuple a)) w') nH
       ·obtain⟨Ut,YM,ar⟩:=cV k c ct
        rw[Nat.add_zero]at ar
        have Bd:=xr iE
        cases fI:β (bF+k)with
        |none=>
         have:=(cT.dP _ _ ar fI).1 rfl
         rw[Bd]at this;cases this
        |some bP=>
         obtain⟨cf,e1,Ss,_,_,eH⟩:=cT.box _ bP fI
         rw[ar]at e1;simp only[Option.some.injEq]at e1;subst e1
         have:=(eH rfl).1
         rw[Bd]at this
         simp only[Option.some.injEq]at this
         subst this
         have sW:∀i,pH cs.length i=true→ht regs i=β i:=fun i hi=>by
          simp only[pH,Bool.and_eq_true,decide_eq_true_eq]at hi
          have bp:i - bF<(C.out as cs).length:=by omega
          obtain⟨_,f2,lT⟩:=cV (i - bF) _ (List.getElem?_eq_getElem bp)
          rw[show bF+0+(i - bF)=i by omega]at lT
          cases Sv:β i with
          |none=>exact(cT.dP _ _ lT Sv).1 rfl
          |some ca=>
           obtain⟨aY,Gf,_,_,_,aeC⟩:=cT.box _ ca Sv
           rw[lT]at Gf;simp only[Option.some.injEq]at Gf;subst Gf
           exact(aeC rfl).1
         refine(aaH sW Ut Ss).mono (bT.trans (jH _ _ _) vF) (fun _ _ _=>rfl) (fun _ _ v _ u H=>aP.mono (bT.trans (jH _ _ _) vF) v u H)
       ·obtain⟨Ut,YM,ar⟩:=cV k c ct
        rw[Nat.add_zero]at ar
        have Bd:=xr iE
        cases fI:β (bF+k)with
        |none=>exact(cT.dP _ _ ar fI).2
        |some bP=>
         obtain⟨cf,e1,Ss,_,_,eH⟩:=cT.box _ bP fI
         rw[ar]at e1;simp only[Option.some.injEq]at e1;subst e1
         have:=(eH rfl).1
         rw[Bd]at this;cases this
      ·exact aq.elim
     ·exact aq.elim
    ·exact aq.elim
   cases e with
   |normal=>exact done he
   |ret=>exact done he
   |exit id=>obtain⟨_,_,_,h1,_⟩:=he;exact h1.elim
   |_=>exact he.elim
  ·cases hf
 ·cases hf
end
end RV
namespace RV
open Go
section
variable {Γ:Env} {σ:St}
theorem aaI {C:fL} {dst:Option Nat} {K ei:St→Prop} (bV:∀s,K s→ei s) {vs:List ag} (h:lx C dst σ K vs):lx C dst σ ei vs:=by
 unfold lx ow at*
 split at h
 ·exact⟨h.1,h.2.1,h.2.2.1,bV _ h.2.2.2⟩
 ·exact h
theorem aaJ {C:bq} {dst:Option Nat} {K ei:St→Prop} (bV:∀s,K s→ei s) {vs:List ag} (h:nu C dst σ K vs):nu C dst σ ei vs:=by
 unfold nu at*
 split at h
 ·refine⟨h.1,?_⟩
  have h2:=h.2
  by_cases bh:C.own=true
  ·rw[if_pos bh]at h2⊢
   split at h2
   ·exact bV _ h2
   ·exact h2
  ·rw[if_neg bh]at h2⊢
   split at h2
   ·rename_i ao;rw[if_pos ao];exact bV _ h2
   ·rename_i ao;rw[if_neg ao];exact⟨h2.1,bV _ h2.2⟩
 ·exact h
theorem Ee {dst:Option Nat} {K ei:St→Prop} (bV:∀s,K s→ei s) {f:Nat} {vs:List ag} (h:ly Γ dst σ K f vs):ly Γ dst σ ei f vs:=by
 unfold ly at*
 split at h
 ·exact aaI bV h
 ·exact aaJ bV h
 ·exact h
theorem Ak {dst:Option Nat} {K ei:St→Prop} (bV:∀s,K s→ei s) {o:bo} (h:cQ Γ dst σ K o):cQ Γ dst σ ei o:=by
 cases o with
 |alloc z=>simp only[cQ]at*;cases dst with
  |none=>exact h
  |some i=>exact bV _ h
 |nil z=>simp only[cQ]at*;cases dst with
  |none=>exact h
  |some i=>exact bV _ h
 |box x=>simp only[cQ]at*;cases dst with
  |none=>exact h
  |some i=>exact⟨h.1,h.2.1,bV _ h.2.2⟩
 |kT ek z n=>
  simp only[cQ]at*
  split at h
  ·split at h
   ·exact⟨h.1,h.2.1,bV _ h.2.2⟩
   ·exact h
  ·exact h.elim
 |store n x y=>
  simp only[cQ]at*
  split at h
  ·split at h
   ·refine⟨h.1,h.2.1,?_⟩
    have al:=h.2.2
    split at al
    ·exact bV _ al
    ·exact al.elim
   ·exact h.elim
  ·split at h
   ·refine⟨h.1,h.2.1,?_⟩
    have al:=h.2.2
    split at al
    ·exact bV _ al
    ·exact al.elim
   ·exact h.elim
  ·exact h.elim
 |app ek x y=>
  simp only[cQ]at*
  split at h
  ·split at h
   ·split at h
    ·exact⟨h.1,h.2.1,h.2.2.1,h.2.2.2.1,bV _ h.2.2.2.2⟩
    ·exact h
   ·exact h.elim
  ·exact h.elim
 |copy ek x y=>
  simp only[cQ]at*
  split at h
  ·split at h
   ·split at h
    ·exact⟨h.1,bV _ h.2⟩
    ·exact h
   ·exact h.elim
  ·exact h.elim
 |q2 x=>
  simp only[cQ]at*
  split at h
  ·exact⟨h.1,fun b ar=>bV _ (h.2 b ar)⟩
  ·exact h
 |call f as=>exact Ee bV h
 |gj x as=>
  simp only[cQ]at*
  split at h
  ·exact Ee bV h
  ·exact Ee bV h
  ·exact h.elim
 |_=>
  simp only[cQ]at h⊢
  exact(EM Γ σ _).mono (fun v=>K (σ.put dst v)) (fun v=>ei (σ.put dst v)) (fun v aA=>bV _ aA) h
theorem zD {g:Option (Nat×Bool)} {y n eh qs:Prop} (hy:y→eh) (aH:n→qs) (h:guarded σ g y n):guarded σ g eh qs:=by
 rw[qH]at*
 exact h.imp (fun h=>⟨h.1,hy h.2⟩) (fun h=>⟨h.1,aH h.2⟩)
theorem wR {K ei:St→Prop} (bV:∀s,K s→ei s):∀{os:List bE} {σ:St},fA Γ K os σ→fA Γ ei os σ
 |[],_,h=>bV _ h
 |o::r,σ,h=>by
  simp only[fA]at*
  exact zD (Ak fun s ay=>wR bV ay) (wR bV) h
theorem sB {K ei:St→Prop} (bV:∀s,K s→ei s):∀{os:List (bE×List Nat)} {σ:St},cG Γ K os σ→cG Γ ei os σ
 |[],_,h=>bV _ h
 |(o,bU)::r,σ,h=>by
  rcases Aj (Γ:=Γ) o bU with p|⟨f,as,C,cW,dy,fM⟩
  ·rw[mf _ _ _ p]at*
   obtain⟨b4,v,h1,h2⟩:=h
   exact⟨b4,v,h1,sB bV h2⟩
  ·simp only[cG]at h⊢
   rw[qH]at h⊢
   rcases h with ⟨br,bw⟩|⟨br,bw⟩
   ·refine .inl ⟨br,?_⟩
    rw[xd cW dy fM]at bw⊢
    obtain⟨s,_,s2,kv⟩:=Ai bw
    exact kv none .c1 (fun t e=>by cases e) _ (sB bV s2)
   ·exact .inr ⟨br,sB bV bw⟩
theorem h8:∀(c:au) {Q Q':eg→St→Prop} {σ:St},(∀e s,Q e s→Q' e s)→bZ Γ c Q σ→bZ Γ c Q' σ
 | .skip,_,_,_,aZ,h=>aZ _ _ h
 | .dc ops,_,_,_,aZ,h=>wR (aZ _) h
 | .jh pre oO,_,_,_,aZ,h=>sB (fun _=>wR (aZ _)) h
 | .seq a b,_,_,_,aZ,h=>by
   simp only[bZ]at*
   refine h8 a (fun e s ay=> ?_) h
   cases e with
   |normal=>exact h8 b aZ ay
   |exit j=>exact aZ _ _ ay
   |ret=>exact aZ _ _ ay
 | .cond c a b,_,_,σ,aZ,h=>by
   simp only[bZ]at*
   split at h
   ·exact⟨fun e=>h8 a aZ (h.1 e),fun e=>h8 b aZ (h.2 e)⟩
   ·exact h.elim
 | .block id a,_,_,_,aZ,h=>by
   simp only[bZ]at*
   refine h8 a (fun e s ay=> ?_) h
   cases e with
   |normal=>exact aZ _ _ ay
   |exit j=>
    simp only at*
    split at ay
    ·rename_i az;rw[if_pos az];exact aZ _ _ ay
    ·rename_i az;rw[if_neg az];exact aZ _ _ ay
   |ret=>exact aZ _ _ ay
 | .loop a,_,_,_,aZ,h=>by
   simp only[bZ,sQ]at*
   obtain⟨I,dN,h0,fZ⟩:=h
   refine⟨I,dN,h0,fun s ay=>h8 a (fun e df iL=> ?_) (fZ s ay)⟩
   cases e with
   |normal=>exact iL
   |exit j=>exact aZ _ _ iL
   |ret=>exact aZ _ _ iL
 | .exit id,_,_,_,aZ,h=>aZ _ _ h
 | .ret,_,_,_,aZ,h=>aZ _ _ h
def au.cut (a b:au):au:= .seq a b
theorem cc {a b:au} {Q:eg→St→Prop} (P:St→Prop) (a2:bZ Γ a (fun e s=>match e with| .normal=>P s|e=>Q e s) σ) (ar:∀s,P s→bZ Γ b Q s):bZ Γ (.cut a b) Q σ:=by
 show bZ Γ (.seq a b) Q σ
 simp only[bZ]
 refine h8 a (fun e s ay=> ?_) a2
 cases e with
 |normal=>exact ar s ay
 |exit j=>exact ay
 |ret=>exact ay
theorem EP {a:au} {id:Nat} {Q:eg→St→Prop} (I:St→Prop) (dN:St→Nat) (h0:I σ)
 (fZ:∀s,I s→bZ Γ a (fun e df=>match e with| .normal=>I df∧dN df<dN s| .exit j=>if j=id then Q .normal df else Q (.exit j) df| .ret=>Q .ret df) s):bZ Γ (.block id (.loop a)) Q σ:=by
 simp only[bZ,sQ]
 refine⟨I,dN,h0,fun s ay=>h8 a (fun e df iL=> ?_) (fZ s ay)⟩
 cases e<;>exact iL
theorem eC {a:au} {Q:eg→St→Prop} (I:St→Prop) (dN:St→Nat) (h0:I σ)
 (fZ:∀s,I s→bZ Γ a (fun e df=>match e with| .normal=>I df∧dN df<dN s|e=>Q e df) s):bZ Γ (.loop a) Q σ:=by
 simp only[bZ,sQ]
 refine⟨I,dN,h0,fun s ay=>h8 a (fun e df iL=> ?_) (fZ s ay)⟩
 cases e<;>exact iL
end
end RV
