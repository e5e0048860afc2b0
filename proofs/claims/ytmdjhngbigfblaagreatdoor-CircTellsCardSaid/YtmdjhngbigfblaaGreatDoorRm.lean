/- Lemmas for a claim: an abstract machine for the translated code, proved sound, and contracts of functions. By an AI agent. -/
import Derived.Test.YtmdjhngbigfblaaGreatDoorRa
import Derived.ProofKit
import Derived.OpenShut
import Derived.ChangeSlices
set_option linter.all false
namespace RV
open Go Go.RowKit Go.ChangeShapes
section
variable {H:Type} {enc:TypeId×Value→H} {P:Program} {w:World} {base:Nat} {spare:Nat→Bool} {held:Bool} {fuel:Nat} {cs:List Value} {x:DataW H×List MemPlace}
theorem ME {m:Mem} {k:IntKind} {b:Nat} :∀{xs:List Int} {o:Nat},(∀i,i<xs.length→m (cellAt b (o+i))=some (.int k (xs.getD i 0)))→fb m k b o xs
 |[],_,_=>trivial
 |x::xs,o,h=>by
  refine⟨by simpa using h 0 (by simp),ME fun i hi=> ?_⟩
  have:=h (i+1) (by simpa using hi)
  rw[show o+1+i=o+(i+1)by omega,this]
  rfl
def fieldsOf (P:Program) (t:TypeId):Option (List (TypeId×Nat)):=match P.underlying t with
 |some (.struct fs)=>some (fs.toList.map fun f=>(f.type,f.offset))
 |_=>none
theorem Mi {t:TypeId} {l:List (TypeId×Nat)} (hf:fieldsOf P t=some l) (h:DataW.trod enc P w base spare held fuel t cs=some x):
 cs.length=P.cellsOf t∧∃n,∀y∈l,∃z,DataW.trod enc P w base spare held n y.1 ((cs.drop y.2).take (P.cellsOf y.1))=some z:=by
 unfold fieldsOf at hf
 split at hf
 ·rename_i fs hu
  simp only[Option.some.injEq]at hf
  subst hf
  obtain⟨xs,n,_,_,aB,ah,hi⟩:=DataW.trod_struct hu h
  refine⟨aB,n,fun y hy=> ?_⟩
  obtain⟨f,akn,rfl⟩:=List.mem_map.1 hy
  obtain⟨i,nY,Kv⟩:=List.mem_iff_getElem.1 akn
  have ako:fs[i]? =some f:=by rw[←Array.getElem?_toList,List.getElem?_eq_getElem nY,Kv]
  have:=hi i f ako
  have bp:i<xs.length:=by rw[ah,←Array.length_toList];exact nY
  rw[List.getElem?_eq_getElem bp]at this
  exact⟨_,this⟩
 ·cases hf
theorem abC {t e:TypeId} (ae:P.underlying t=some (.slice e)) (he:P.underlying e=some (.int .i64)) (ao:P.cellsOf e=1) (h:DataW.trod enc P w base spare held fuel t cs=some x):
 ∃xs v,cs=[v]∧bn w.cell? (.ints .i64 xs) v:=by
 rcases open_ints ae he ao h with ⟨rfl,_⟩|⟨a,len,cap,zs,rfl,_,aB,_,bg,_,gl,_⟩
 ·exact⟨[],_,rfl,by simp only[bn];exact⟨none,0,rfl,Nat.le_refl _,.inl trivial⟩⟩
 ·have HM:len≤zs.length:=by rw[bg];split<;>omega
  refine⟨zs.take len,_,rfl,?_⟩
  simp only[bn]
  have a1:(zs.take len).length=len:=by rw[List.length_take];omega
  refine⟨some a,cap,by rw[a1],by omega,?_⟩
  by_cases h0:len=0
  ·left;rw[h0];rfl
  ·right
   have jN:a.spot=none:=by
    have:=gl 0 (by omega)
    simp only[Addr.add,if_true]at this
    unfold World.cell? at this
    split at this
    ·split at this
     ·cases this
     ·rename_i ay;cases jN:a.spot with
      |none=>rfl
      |some s=>rw[jN]at ay;simp at ay
    ·cases this
   refine⟨a.block,a.off,by cases a;simp only at jN;subst jN;rfl,ME fun i hi=> ?_⟩
   rw[a1]at hi
   have:=gl i (by omega)
   have a2:a.add i=cellAt a.block (a.off+i):=by
    unfold Addr.add cellAt
    split
    ·rename_i h;subst h;cases a;simp only at jN;subst jN;rfl
    ·rfl
   rw[a2]at this
   rw[this,List.getD_eq_getElem?_getD,List.getD_eq_getElem?_getD,List.getElem?_take]
   simp[hi]
theorem aek {t DI c2 oe e:TypeId} (hf:fieldsOf P t=some [(DI,0),(c2,1),(oe,2)]) (ar:P.underlying DI=some .bool) (ay:P.underlying c2=some (.slice e)) (he:P.underlying e=some (.int .i64)) (hi:P.underlying oe=some (.int .i64))
 (iW:P.cellsOf DI=1) (cs':P.cellsOf c2=1) (ci:P.cellsOf oe=1) (ce:P.cellsOf e=1) (ld:P.cellsOf t=3) (h:DataW.trod enc P w base spare held fuel t cs=some x):
 ∃(b:Bool) (xs:List Int) (z:Int),bI w.cell? [.bool b,.ints .i64 xs,.int .i64 z] cs:=by
 obtain⟨aB,n,fB⟩:=Mi hf h
 rw[ld]at aB
 match cs,aB with
 |[eW,bB,cu],_=>
  obtain⟨wA,h0⟩:=fB (DI,0) (by simp)
  obtain⟨e9,h1⟩:=fB (c2,1) (by simp)
  obtain⟨gY,h2⟩:=fB (oe,2) (by simp)
  simp only[iW,cs',ci,List.drop_zero,List.drop_succ_cons,List.take_succ_cons,List.take_zero]at h0 h1 h2
  obtain⟨b,cF,_⟩:=DataW.trod_bool ar h0
  obtain⟨xs,v,a1,aA⟩:=abC ay he ce h1
  obtain⟨z,a6,_⟩:=DataW.trod_int hi h2
  simp only[List.cons.injEq,and_true]at cF a1 a6
  subst cF;subst a1;subst a6
  exact⟨b,xs,z,by simp only[bI];exact⟨_,_,rfl,by simp only[bn],_,_,rfl,aA,_,_,rfl,by simp only[bn],rfl⟩⟩
theorem ael {t oe:TypeId} (hf:fieldsOf P t=some [(oe,0),(oe,1)]) (hi:P.underlying oe=some (.int .i64)) (ci:P.cellsOf oe=1) (ld:P.cellsOf t=2) (h:DataW.trod enc P w base spare held fuel t cs=some x):
 ∃y z:Int,bI w.cell? [.int .i64 y,.int .i64 z] cs:=by
 obtain⟨aB,n,fB⟩:=Mi hf h
 rw[ld]at aB
 match cs,aB with
 |[eW,bB],_=>
  obtain⟨wA,h0⟩:=fB (oe,0) (by simp)
  obtain⟨e9,h1⟩:=fB (oe,1) (by simp)
  simp only[ci,List.drop_zero,List.drop_succ_cons,List.take_succ_cons,List.take_zero]at h0 h1
  obtain⟨y,cF,_⟩:=DataW.trod_int hi h0
  obtain⟨z,a1,_⟩:=DataW.trod_int hi h1
  simp only[List.cons.injEq,and_true]at cF a1
  subst cF;subst a1
  exact⟨y,z,by simp only[bI];exact⟨_,_,rfl,by simp only[bn],_,_,rfl,by simp only[bn],rfl⟩⟩
theorem OT {t:TypeId} {l:List (TypeId×Nat)} (hf:fieldsOf P t=some l) {v:Value} (aA:Value.okWide P w .any base t v):∃arr,v= .agg arr∧v.cells=arr:=by
 unfold fieldsOf at hf
 unfold Value.okWide at aA
 split at hf
 ·rename_i fs hu
  rw[hu]at aA
  obtain⟨arr,rfl,_⟩:=aA
  exact⟨arr,rfl,rfl⟩
 ·cases hf
theorem aaS {t e:TypeId} {n:Nat} {k:IntKind} (ae:P.underlying t=some (.array n e)) (he:P.underlying e=some (.int k)) (ce:P.cellsOf e=1) {xs:List Int} {p:List MemPlace} (ah:xs.length=n)
 (h:DataW.trod enc P w base spare held fuel t cs=some (.agg (xs.map fun z=> .lit (.int k z)),p)):∀i,i<n→cs[i]? =some (.int k (xs.getD i 0)):=by
 obtain⟨ax,m,_,YC,_,amd,hi⟩:=DataW.trod_array ae h
 simp only[Prod.mk.injEq,DataW.agg.injEq]at YC
 intro i gI
 have h1:=hi i gI
 rw[ce,Nat.mul_one,List.getElem?_eq_getElem (show i<ax.length by omega)]at h1
 obtain⟨z,a1,a6,_⟩:=DataW.trod_int he h1
 have al:(xs.map fun z=>(DataW.lit (.int k z):DataW H))[i]? =(ax.map (·.1))[i]? :=by rw[YC.1]
 rw[List.getElem?_map,List.getElem?_map,List.getElem?_eq_getElem (show i<xs.length by omega),List.getElem?_eq_getElem (show i<ax.length by omega)]at al
 simp only[Option.map_some,Option.some.injEq]at al
 rw[a6]at al
 simp only[DataW.lit.injEq,Lit.int.injEq,true_and]at al
 rw[List.getD_eq_getElem?_getD,List.getElem?_eq_getElem (show i<xs.length by omega),Option.getD_some,al]
 have aE:=congrArg (fun l:List Value=>l[0]?) a1
 simp only[List.getElem?_take,List.getElem?_drop,List.getElem?_cons_zero]at aE
 simpa using aE
end
end RV
