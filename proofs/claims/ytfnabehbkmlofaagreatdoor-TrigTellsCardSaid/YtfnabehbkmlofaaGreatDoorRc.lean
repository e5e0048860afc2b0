/- Lemmas for a claim: an abstract machine for the translated code, proved sound, and contracts of functions. By an AI agent. -/
import Derived.Test.YtfnabehbkmlofaaGreatDoorRb
import Derived.OrdersIn
import Derived.RangeFuncLeaves
import Derived.RangeFuncRecord
set_option linter.all false
namespace RV
open Go Go.RowKit
structure lh (σ σ':St) (xs:List bk):Prop where
 aU:∀x∈xs,σ'.aU x=σ.aU x
 aA:∀j,ag.df j (cr σ xs)=true→σ'.aA j=σ.aA j
section
variable {σ σ':St} {Γ:Env} {K:ag→Prop}
theorem MT {j:Nat} {v:ag} :∀{vs:List ag},v∈vs→v.has j=true→ag.df j vs=true
 |[],h,_=>by cases h
 |x::xs,h,aF=>by
  simp only[ag.df,Bool.or_eq_true]
  rcases List.mem_cons.1 h with rfl|h
  ·exact .inl aF
  ·exact .inr (MT h aF)
theorem Y1 {j:Nat} :∀{vs us:List ag},(∀v∈vs,v∈us)→ag.df j vs=true→ag.df j us=true
 |[],_,_,h=>by simp[ag.df]at h
 |x::xs,us,aE,h=>by
  simp only[ag.df,Bool.or_eq_true]at h
  rcases h with h|h
  ·exact MT (aE x (by simp)) h
  ·exact Y1 (fun v aB=>aE v (by simp[aB])) h
theorem lh.one {xs:List bk} (h:lh σ σ' xs) {x:bk} (aj:x∈xs):∀j,(σ.aU x).has j=true→σ'.aA j=σ.aA j:=
 fun j aF=>h.aA j (MT (List.mem_map.2 ⟨x,aj,rfl⟩) aF)
theorem lh.sub {xs aC:List bk} (h:lh σ σ' xs) (aE:∀y∈aC,y∈xs):lh σ σ' aC:=
 ⟨fun x aj=>h.aU x (aE x aj),fun j aF=>h.aA j (Y1 (fun v aB=>by
  obtain⟨y,hy,rfl⟩:=List.mem_map.1 aB
  exact List.mem_map.2 ⟨y,aE y hy,rfl⟩) aF)⟩
theorem lh.cr {xs:List bk} (h:lh σ σ' xs):cr σ' xs=cr σ xs:=List.map_congr_left h.aU
mutual
theorem toD_local:∀(v:ag),(∀j,v.has j=true→σ'.aA j=σ.aA j)→toD σ' v=toD σ v
 | .d _,_=>rfl
 | .agg cs,h=>by simp only[toD,toDs_local cs (fun j aF=>h j (by simpa [ag.has]using aF))]
 | .own i lo n,h=>by simp only[toD,h i (by simp[ag.has])]
 | .box i 0,h=>by simp only[toD,h i (by simp[ag.has])]
 | .box i (n+1),_=>rfl
 | .eo _ _ _,_=>rfl
 | .mp _,_=>rfl
 | .dk f x y,h=>by simp only[toD,toDs_local x (fun j aF=>h j (by simp[ag.has,aF])),toDs_local y (fun j aF=>h j (by simp[ag.has,aF]))]
 | .dv _,_=>rfl
 | .dB,_=>rfl
 | .any,_=>rfl
theorem toDs_local:∀(vs:List ag),(∀j,ag.df j vs=true→σ'.aA j=σ.aA j)→toDs σ' vs=toDs σ vs
 |[],_=>rfl
 |v::vs,h=>by simp only[toDs,toD_local v (fun j aF=>h j (by simp[ag.df,aF])),toDs_local vs (fun j aF=>h j (by simp[ag.df,aF]))]
end
theorem akO {v:ag} (h:∀j,v.has j=true→σ'.aA j=σ.aA j) (n:Nat) (g:Bool):k8 σ' n g v K=k8 σ n g v K:=by
 cases v with
 |box i off=>simp only[k8,h i (by simp[ag.has])]
 |eo i j off=>simp only[k8,h i (by simp[ag.has])]
 |d x=>cases x<;>rfl
 |_=>rfl
theorem akl {v:ag} (h:∀j,v.has j=true→σ'.aA j=σ.aA j) (sz:Nat) (i:Int):zF σ' sz v i K=zF σ sz v i K:=by
 cases v with
 |own b lo n=>simp only[zF,h b (by simp[ag.has])]
 |d x=>cases x<;>rfl
 |_=>rfl
theorem alQ {v:ag} (h:∀j,v.has j=true→σ'.aA j=σ.aA j) (sz:Nat) (lo hi:Option ag):tG σ' sz v lo hi K=tG σ sz v lo hi K:=by
 cases v with
 |own b l n=>simp only[tG,h b (by simp[ag.has])]
 |d x=>cases x<;>rfl
 |_=>rfl
theorem Xd:∀{l:List Nat} {i:Nat},i∈distinct l→i∈l
 |[],_,h=>by cases h
 |x::xs,i,h=>by
  simp only[distinct,List.mem_cons,List.mem_filter]at h⊢
  rcases h with h|h
  ·exact .inl h
  ·exact .inr (Xd h.1)
mutual
theorem aoo:∀(v:ag) (i:Nat),i∈v.ids→v.has i=true
 | .d _,i,h=>by simp[ag.ids]at h
 | .agg cs,i,h=>by simp only[ag.ids]at h;simp only[ag.has];exact Iu cs i h
 | .box j _,i,h=>by simp only[ag.ids,List.mem_singleton]at h;simp[ag.has,h]
 | .own j _ _,i,h=>by simp only[ag.ids,List.mem_singleton]at h;simp[ag.has,h]
 | .eo j _ _,i,h=>by simp only[ag.ids,List.mem_singleton]at h;simp[ag.has,h]
 | .mp j,i,h=>by simp only[ag.ids,List.mem_singleton]at h;simp[ag.has,h]
 | .dk _ x y,i,h=>by
   simp only[ag.ids,List.mem_append]at h
   simp only[ag.has,Bool.or_eq_true]
   rcases h with h|h
   ·exact .inl (Iu x i h)
   ·exact .inr (Iu y i h)
 | .dv _,i,h=>by simp[ag.ids]at h
 | .dB,i,h=>by simp[ag.ids]at h
 | .any,i,h=>by simp[ag.ids]at h
theorem Iu:∀(vs:List ag) (i:Nat),i∈ag.jb vs→ag.df i vs=true
 |[],i,h=>by simp[ag.jb]at h
 |v::vs,i,h=>by
  simp only[ag.jb,List.mem_append]at h
  simp only[ag.df,Bool.or_eq_true]
  rcases h with h|h
  ·exact .inl (aoo v i h)
  ·exact .inr (Iu vs i h)
end
theorem WZ {p:Nat→Bool} :∀(is:List Nat),(∀i∈is,σ'.aA i=σ.aA i)→contents σ' p is=contents σ p is
 |[],_=>rfl
 |i::r,h=>by
  simp only[contents,h i (by simp),WZ r (fun j aF=>h j (by simp[aF]))]
theorem akP {l:bx} (h:lh σ σ' l.ops):bf Γ σ' K l=bf Γ σ K l:=by
 cases l with
 |bg x=>simp only[bf,h.aU x (by simp[bx.ops])]
 |pick c x y=>simp only[bf,h.aU c (by simp[bx.ops]),h.aU x (by simp[bx.ops]),h.aU y (by simp[bx.ops])]
 |load n g x=>simp only[bf,h.aU x (by simp[bx.ops])];exact akO (h.one (by simp[bx.ops])) _ _
 |zH x=>simp only[bf,h.aU x (by simp[bx.ops])]
 |bin op x y=>simp only[bf,h.aU x (by simp[bx.ops]),h.aU y (by simp[bx.ops])]
 |yQ ne x y=>simp only[bf,h.aU x (by simp[bx.ops]),h.aU y (by simp[bx.ops])]
 |q5 ne x y=>simp only[bf,h.aU x (by simp[bx.ops]),h.aU y (by simp[bx.ops])]
 |un op x=>simp only[bf,h.aU x (by simp[bx.ops])]
 |conv k x=>simp only[bf,h.aU x (by simp[bx.ops])]
 |ys x=>simp only[bf,h.aU x (by simp[bx.ops])]
 |fM off x=>simp only[bf,h.aU x (by simp[bx.ops])]
 |BI off n g x=>simp only[bf,h.aU x (by simp[bx.ops])]
 |iE sz x i=>
  simp only[bf,h.aU x (by simp[bx.ops]),h.aU i (by simp[bx.ops])]
  split
  ·exact akl (h.one (by simp[bx.ops])) _ _
  ·rfl
 |Bb len sz x i=>simp only[bf,h.aU x (by simp[bx.ops]),h.aU i (by simp[bx.ops])]
 |idx len n g x i=>simp only[bf,h.aU x (by simp[bx.ops]),h.aU i (by simp[bx.ops])]
 |l5 i x=>simp only[bf,h.aU x (by simp[bx.ops])]
 |len x=>simp only[bf,h.aU x (by simp[bx.ops])]
 |po x y=>simp only[bf,h.aU x (by simp[bx.ops]),h.aU y (by simp[bx.ops])]
 |Cd x y=>simp only[bf,h.aU x (by simp[bx.ops]),h.aU y (by simp[bx.ops])]
 |BJ sz x lo hi=>
  have ur:lo.map σ'.aU=lo.map σ.aU:=by
   cases lo with
   |none=>rfl
   |some y=>simp only[Option.map_some,h.aU y (by simp[bx.ops])]
  have BM:hi.map σ'.aU=hi.map σ.aU:=by
   cases hi with
   |none=>rfl
   |some y=>simp only[Option.map_some,h.aU y (by simp[bx.ops])]
  simp only[bf,h.aU x (by simp[bx.ops]),ur,BM]
  exact alQ (h.one (by simp[bx.ops])) _ _ _
 |build zero parts=>
  have:(parts.map fun p=>(p.1,p.2.1,σ'.aU p.2.2))=parts.map fun p=>(p.1,p.2.1,σ.aU p.2.2):=List.map_congr_left fun p aQ=>by
   rw[h.aU p.2.2 (List.mem_map.2 ⟨p,aQ,rfl⟩)]
  simp only[bf,this]
 |rI ek parts=>
  have aw:=toDs_local (σ:=σ) (σ':=σ') (cr σ parts) h.aA
  have aH:cr σ' parts=cr σ parts:=h.cr
  simp only[bf,aH,aw]
 |Bn f x y=>
  have h1:lh σ σ' x:=h.sub (fun z bp=>by simp[bx.ops,bp])
  have h2:lh σ σ' y:=h.sub (fun z bp=>by simp[bx.ops,bp])
  simp only[bf,h1.cr,h2.cr,toDs_local (σ:=σ) (σ':=σ') (cr σ x) h1.aA,toDs_local (σ:=σ) (σ':=σ') (cr σ y) h2.aA]
 |call f bm=>
  have aH:cr σ' bm=cr σ bm:=h.cr
  simp only[bf,aH,toDs_local (σ:=σ) (σ':=σ') (cr σ bm) h.aA]
 |hJ x bm=>
  have h2:lh σ σ' bm:=h.sub (fun z bp=>by simp[bx.ops,bp])
  have aw:∀f u v,σ.aU x= .dk f u v→∀C:gu,yA C σ' K (u++cr σ bm++v)=yA C σ K (u++cr σ bm++v):=by
   intro f u v e C
   have ay:contents σ' (fun _=>false) (distinct (ag.jb (u++cr σ bm++v)))=contents σ (fun _=>false) (distinct (ag.jb (u++cr σ bm++v))):=by
    refine WZ _ fun i hi=> ?_
    have hi:=Iu _ i (Xd hi)
    rw[QD,QD]at hi
    simp only[Bool.or_eq_true]at hi
    rcases hi with (hi|hi)|hi
    ·exact h.aA i (by simp only[bx.ops,cr,List.map_cons,ag.df,e,ag.has,hi,Bool.true_or])
    ·exact h.aA i (by simp only[bx.ops,cr,List.map_cons,ag.df];rw[show ag.df i (List.map σ.aU bm)=true from hi,Bool.or_true])
    ·exact h.aA i (by simp only[bx.ops,cr,List.map_cons,ag.df,e,ag.has,hi,Bool.true_or,Bool.or_true])
   simp only[yA,ay]
  simp only[bf,h.aU x (by simp[bx.ops]),h2.cr,toDs_local (σ:=σ) (σ':=σ') (cr σ bm) h2.aA]
  split
  ·rfl
  ·rename_i f u v e
   split
   ·exact aw f u v e _
   ·rfl
  ·rfl
 |yj ne x=>simp only[bf,h.aU x (by simp[bx.ops])]
 |yR ne len x y=>simp only[bf,h.aU x (by simp[bx.ops]),h.aU y (by simp[bx.ops])]
 |BK t x=>simp only[bf,h.aU x (by simp[bx.ops]),toD_local (σ:=σ) (σ':=σ') (σ.aU x) (h.one (by simp[bx.ops]))]
 |oT x=>simp only[bf,h.aU x (by simp[bx.ops])]
 |sq kQ x bm=>
  have h2:lh σ σ' bm:=h.sub (fun z bp=>by simp[bx.ops,bp])
  simp only[bf,h.aU x (by simp[bx.ops]),h2.cr,toDs_local (σ:=σ) (σ':=σ') (cr σ bm) h2.aA]
 |Bo n ok z m k=>
  have aw:=h.one (x:=m) (by simp[bx.ops])
  simp only[bf,h.aU m (by simp[bx.ops]),h.aU k (by simp[bx.ops])]
  generalize σ.aU m=M at aw
  generalize (σ.aU k).key=Y
  cases M with
  |mp i=>
   cases Y with
   |none=>rfl
   |some y=>simp only[aw i (by simp[ag.has])]
  |_=>rfl
 |_=>rfl
theorem akQ {l:bx} (h:lh σ σ' l.ops) {K:ag→cm→Prop} {i:Nat} :made σ' l K i=made σ l K i:=by
 cases l with
 |box x=>simp only[made,h.aU x (by simp[bx.ops])]
 |rJ ek z n=>simp only[made,h.aU n (by simp[bx.ops])]
 |_=>rfl
theorem ajV {n:Nat} {x y:bk} (h:lh σ σ' [x,y]) {K:Nat→cm→Prop} :stored σ' n x y K=stored σ n x y K:=by
 cases x with
 |c d=>rfl
 |t p=>
  have h1:=h.aU (.t p) (by simp)
  have h2:=h.aU y (by simp)
  have aq:=h.one (x:= .t p) (by simp)
  simp only[stored,h1,h2]
  generalize σ.aU (.t p)=X at aq
  cases X with
  |box i off=>simp only[aq i (by simp[ag.has])]
  |_=>rfl
theorem ajL {n:Nat} {x y:bk} (h:lh σ σ' [x,y]) {K:Nat→cm→Prop} :yc σ' n x y K=yc σ n x y K:=by
 have h1:=h.aU x (by simp)
 have h2:=h.aU y (by simp)
 have aq:=h.one (x:=x) (by simp)
 simp only[yc,h1,h2]
 generalize σ.aU x=X at aq
 cases X with
 |box i off=>simp only[aq i (by simp[ag.has])]
 |eo i j off=>simp only[aq i (by simp[ag.has])]
 |_=>rfl
theorem ajM {cl:List Nat} {n:Nat} {x y:bk} (h:lh σ σ' [x,y]) {K:Nat→cm→Prop} :uX cl σ' n x y K=uX cl σ n x y K:=by
 cases cl with
 |nil=>exact ajL h
 |cons _ _=>exact ajV h
end
end RV
namespace RV
open Go Go.RowKit
def q7 (σ:St) (g:Option (Nat×Bool)):Option Bool:=
 match g with
 |none=>some true
 |some (t,w)=>match σ.af t with
  | .d (.bool b)=>some (b==w)
  | .dB=>some false
  |_=>none
def app (cu:Option (Nat×cm)) (dst:Option Nat) (v:ag) (σ:St):St:=
 (match cu with|some (i,b)=>σ.ea i b|none=>σ).put dst v
def yD (Γ:Env) (dst:Option Nat) (op:bx) (σ:St) (cu:Option (Nat×cm)) (v:ag):Prop:=
 if op.makes=true then Jl dst fun i=>σ.aA i=none∧made σ op (fun cR b=>cR=v∧cu=some (i,b)) i else cu=none∧bf Γ σ (fun u=>u=v) op
def BU (Γ:Env) (o:bW) (cl:List Nat) (σ:St) (cu:Option (Nat×cm)) (v:ag):Prop:=
 match o.op with
 | .store n a x=>o.dst=none∧v= .dB∧uX cl σ n a x fun i b=>cu=some (i,b)
 |op=>yD Γ o.dst op σ cu v
def sm (Γ:Env) (o:bW) (cl:List Nat) (σ:St) (cu:Option (Nat×cm)) (v:ag):Prop:=
 match q7 σ o.guard with
 |some true=>Ez cl (cr σ o.op.ops)=true∧BU Γ o cl σ cu v
 |some false=>cu=none∧v= .dB
 |none=>False
section
variable {Γ:Env} {σ σ':St} {K:St→Prop}
theorem AG (g:Option (Nat×Bool)) (yes no:Prop):guarded σ g yes no↔(q7 σ g=some true∧yes)∨(q7 σ g=some false∧no):=by
 cases g with
 |none=>simp[guarded,q7]
 |some zd=>
  obtain⟨t,w⟩:=zd
  simp only[guarded,q7]
  generalize σ.af t=X
  cases X with
  |d x=>cases x with
   |bool b=>cases b<;>cases w<;>simp
   |_=>simp
  |_=>simp
theorem Yq (dst:Option Nat) (op:bx):tH Γ dst op σ K↔∃cu v,yD Γ dst op σ cu v∧K (app cu dst v σ):=by
 unfold tH yD
 by_cases hm:op.makes=true
 ·simp only[hm,if_true]
  cases dst with
  |none=>simp[Jl]
  |some i=>
   simp only[Jl]
   rw[MS]
   constructor
   ·rintro⟨h1,v,b,h2,aq⟩
    refine⟨some (i,b),v,⟨h1,?_⟩,aq⟩
    rw[MS]
    exact⟨v,b,h2,rfl,rfl⟩
   ·rintro⟨cu,v,⟨h1,h2⟩,aq⟩
    rw[MS]at h2
    obtain⟨cR,b,h2,rfl,rfl⟩:=h2
    exact⟨h1,_,b,h2,aq⟩
 ·simp only[hm,Bool.false_eq_true,if_false]
  constructor
  ·intro h
   obtain⟨v,h1,h2⟩:=(Rq Γ σ op).one _ h
   exact⟨none,v,⟨rfl,h1⟩,h2⟩
  ·rintro⟨cu,v,⟨rfl,h1⟩,h2⟩
   exact(Rq Γ σ op).mono _ _ (fun u hu=>by subst hu;exact h2) h1
def EL (Γ:Env) (o:bW) (cl:List Nat):Prop:=match o.op,cl with
 | .call f _,[]=>Γ.mt f=none
 |_,_=>True
theorem amU {o:bW} {cl:List Nat} (h:o.kh=true):EL Γ o cl:=by
 cases o with|mk dst op g=>
 cases op<;>first|trivial|cases h
theorem Y2 {o:bW} {cl:List Nat} (h:o.CH=true→cl≠[]):EL Γ o cl:=by
 cases o with|mk dst op g=>
 cases op with
 |call f bm=>
  cases cl with
  |nil=>exact absurd rfl (h rfl)
  |cons _ _=>trivial
 |_=>trivial
theorem aop (o:bW) (cl:List Nat) (aQ:EL Γ o cl):vH Γ o cl σ K↔Ez cl (cr σ o.op.ops)=true∧∃cu v,BU Γ o cl σ cu v∧K (app cu o.dst v σ):=by
 unfold vH
 refine and_congr_right fun _=> ?_
 cases o with|mk dst op g=>
 cases op with
 |store n a x=>
  simp only[BU]
  constructor
  ·rintro⟨rfl,h⟩
   rw[H9]at h
   obtain⟨i,b,h1,h2⟩:=h
   refine⟨some (i,b),.dB,⟨rfl,rfl,?_⟩,h2⟩
   rw[H9]
   exact⟨i,b,h1,rfl⟩
  ·rintro⟨cu,v,⟨rfl,rfl,h⟩,h2⟩
   rw[H9]at h
   obtain⟨i,b,h1,rfl⟩:=h
   refine⟨rfl,?_⟩
   rw[H9]
   exact⟨i,b,h1,h2⟩
 |call f bm=>
  have e:Bf Γ dst cl σ K f bm=tH Γ dst (.call f bm) σ K:=by
   unfold Bf
   cases cl with
   |nil=>simp only[EL]at aQ;rw[aQ]
   |cons _ _=>rfl
  simp only[e]
  exact Yq _ _
 |_=>exact Yq _ _
theorem tl (o:bW) (cl:List Nat) (r:List (bW×List Nat)) (aQ:EL Γ o cl):di Γ K ((o,cl)::r) σ↔∃cu v,sm Γ o cl σ cu v∧di Γ K r (app cu o.dst v σ):=by
 simp only[di]
 rw[AG,aop _ _ aQ]
 unfold sm
 constructor
 ·rintro(⟨h1,h2,cu,v,aq,aK⟩|⟨h1,h2⟩)
  ·exact⟨cu,v,by rw[h1];exact⟨h2,aq⟩,aK⟩
  ·exact⟨none,.dB,by rw[h1];exact⟨rfl,rfl⟩,h2⟩
 ·rintro⟨cu,v,h1,h2⟩
  split at h1
  ·rename_i e
   exact .inl ⟨e,h1.1,cu,v,h1.2,h2⟩
  ·rename_i e
   obtain⟨rfl,rfl⟩:=h1
   exact .inr ⟨e,h2⟩
  ·exact h1.elim
theorem D9 {dst:Option Nat} {op:bx} {i:Nat} {b:cm} {v:ag} (h:yD Γ dst op σ (some (i,b)) v):op.makes=true∧dst=some i∧σ.aA i=none:=by
 unfold yD at h
 by_cases hm:op.makes=true
 ·simp only[hm,if_true]at h
  cases dst with
  |none=>exact h.elim
  |some j=>
   obtain⟨h1,h2⟩:=h
   rw[MS]at h2
   obtain⟨_,_,_,_,aq⟩:=h2
   simp only[Option.some.injEq,Prod.mk.injEq]at aq
   obtain⟨rfl,_⟩:=aq
   exact⟨hm,rfl,h1⟩
 ·simp only[hm,Bool.false_eq_true,if_false]at h
  cases h.1
theorem Xt {n:Nat} {a x:bk} {K:Nat→cm→Prop} (h:stored σ n a x K):∃p off,a= .t p∧σ.aU a= .box p off:=by
 cases a with
 |c d=>simp[stored]at h
 |t p=>
  simp only[stored]at h
  split at h
  ·rename_i dx i off aQ aB
   obtain⟨rfl,_⟩:=h
   simp only[bk.t.injEq]at aQ
   subst aQ
   exact⟨_,off,rfl,aB⟩
  ·exact h.elim
theorem akR {o:bW} {cl:List Nat} {cu:Option (Nat×cm)} {v:ag} (UL:o.CH=true→cl≠[]) (h:BU Γ o cl σ cu v):∀i b,cu=some (i,b)→i∈o.writes:=by
 intro i b e
 subst e
 cases o with|mk dst op g=>
 cases op with
 |store n a x=>
  simp only[BU]at h
  obtain⟨rfl,rfl,h⟩:=h
  have eB:=UL rfl
  cases cl with
  |nil=>exact absurd rfl eB
  |cons _ _=>
  simp only[uX]at h
  rw[XQ]at h
  obtain⟨lM,fm,h1,h2⟩:=h
  obtain⟨p,off,rfl,aQ⟩:=Xt h1
  simp only[stored,aQ]at h1
  obtain⟨_,h1⟩:=h1
  split at h1
  ·obtain⟨_,_,h1⟩:=h1
   split at h1
   ·simp only[Option.some.injEq,Prod.mk.injEq]at h2
    simp[bW.writes,h2.1,←h1.1]
   ·exact h1.elim
  ·exact h1.elim
 |alloc z=>obtain⟨_,e,_⟩:=D9 h;simp only at e;subst e;simp[bW.writes,bx.makes]
 |box z=>obtain⟨_,e,_⟩:=D9 h;simp only at e;subst e;simp[bW.writes,bx.makes]
 |rJ _ _ z=>obtain⟨_,e,_⟩:=D9 h;simp only at e;subst e;simp[bW.writes,bx.makes]
 |nil z=>obtain⟨_,e,_⟩:=D9 h;simp only at e;subst e;simp[bW.writes,bx.makes]
 |q0 z=>obtain⟨_,e,_⟩:=D9 h;simp only at e;subst e;simp[bW.writes,bx.makes]
 |_=>exact absurd (D9 h).1 (by simp[bx.makes])
structure Alike (o:bW) (cl:List Nat) (σ σ':St):Prop where
 ops:∀t,bk.t t∈o.op.ops→σ'.af t=σ.af t
 Wk:∀t w,o.guard=some (t,w)→σ'.af t=σ.af t
 aA:∀j,j∉cl∨j∈o.writes→σ'.aA j=σ.aA j
theorem Alike.same {o:bW} {cl:List Nat} (h:Alike o cl σ σ') (lz:Ez cl (cr σ o.op.ops)=true):lh σ σ' o.op.ops:=by
 refine⟨fun x aj=> ?_,fun j aF=>h.aA j (.inl fun aJ=> ?_)⟩
 ·cases x with
  |t t=>exact h.ops t aj
  |c d=>rfl
 ·simp only[Ez,List.all_eq_true]at lz
  have:=lz j aJ
  rw[aF]at this;cases this
theorem Mf {o:bW} {cl:List Nat} {cu:Option (Nat×cm)} {v:ag} (h:Alike o cl σ σ') (aE:sm Γ o cl σ cu v):sm Γ o cl σ' cu v:=by
 unfold sm at*
 have bb:q7 σ' o.guard=q7 σ o.guard:=by
  cases KD:o.guard with
  |none=>rfl
  |some zd=>simp only[q7,h.Wk zd.1 zd.2 KD]
 rw[bb]
 split at aE
 ·obtain⟨lz,aE⟩:=aE
  have CS:=h.same lz
  refine⟨by rw[CS.cr];exact lz,?_⟩
  have asK:∀{dst:Option Nat} {op:bx},lh σ σ' op.ops→(∀i,op.makes=true→dst=some i→σ'.aA i=σ.aA i)→yD Γ dst op σ cu v→yD Γ dst op σ' cu v:=by
   intro dst op ae6 aw h1
   unfold yD at*
   by_cases hm:op.makes=true
   ·simp only[hm,if_true]at h1⊢
    cases dst with
    |none=>exact h1
    |some i=>exact⟨by rw[aw i hm rfl];exact h1.1,by rw[akQ ae6];exact h1.2⟩
   ·simp only[hm,Bool.false_eq_true,if_false]at h1⊢
    exact⟨h1.1,by rw[akP ae6];exact h1.2⟩
  have yY:∀i,o.op.makes=true→o.dst=some i→σ'.aA i=σ.aA i:=fun i hm aD=>h.aA i (.inr (by
   cases o with|mk dst op g=>
   simp only at aD hm
   subst aD
   cases op<;>first|(simp[bW.writes,bx.makes];done)|(simp[bx.makes]at hm;done)))
  cases o with|mk dst op g=>
  cases op with
  |store n a x=>
   simp only[BU]at aE⊢
   exact⟨aE.1,aE.2.1,by rw[ajM (CS.sub (by simp[bx.ops]))];exact aE.2.2⟩
  |_=>exact asK CS yY aE
 ·exact aE
 ·exact aE.elim
theorem Xe {o:bW} {cl:List Nat} {cu:Option (Nat×cm)} {v:ag} (UL:o.CH=true→cl≠[]) (h:sm Γ o cl σ cu v):∀i b,cu=some (i,b)→i∈o.writes:=by
 unfold sm at h
 split at h
 ·exact akR UL h.2
 ·intro i b e;rw[h.1]at e;cases e
 ·exact h.elim
theorem qZ (cu:Option (Nat×cm)) (dst:Option Nat) (v:ag) (σ:St) (t:Nat) (h:dst≠some t):(app cu dst v σ).af t=σ.af t:=by
 unfold app
 rw[fX,if_neg h]
 cases cu<;>rfl
theorem u4 (cu:Option (Nat×cm)) (dst:Option Nat) (v:ag) (σ:St) (j:Nat):(app cu dst v σ).aA j=match cu with|some (i,b)=>if j=i then some b else σ.aA j|none=>σ.aA j:=by
 unfold app
 rw[pQ]
 cases cu<;>rfl
theorem alR {cu:Option (Nat×cm)} {dst:Option Nat} {v:ag} {σ:St} {j:Nat} (h:∀i b,cu=some (i,b)→j≠i):(app cu dst v σ).aA j=σ.aA j:=by
 rw[u4]
 cases cu with
 |none=>rfl
 |some DU=>simp only;rw[if_neg (h DU.1 DU.2 rfl)]
theorem ti {o:bW} {t:Nat} (h:bk.t t∈o.op.ops):t∈o.q3:=by
 simp only[bW.q3,List.mem_append,List.mem_filterMap]
 exact .inr (.inl ⟨.t t,h,rfl⟩)
theorem r9 {o:bW} {t:Nat} {w:Bool} (h:o.guard=some (t,w)):t∈o.q3:=by
 simp only[bW.q3,List.mem_append,h]
 exact .inr (.inr (by simp))
theorem Co {o:bW} {t:Nat} (h:o.dst=some t):t∈o.q3:=by
 simp only[bW.q3,List.mem_append,h]
 exact .inl (by simp)
structure Bu (x y:bW) (e1 ny:List Nat):Prop where
 lO:∀d,x.dst=some d→d∉y.q3
 lP:∀d,y.dst=some d→d∉x.q3
 ww:∀d∈x.writes,d∉y.writes
 Wl:x.CH=true→e1≠[]
 Wm:y.CH=true→ny≠[]
 e1:∀d∈y.writes,d∈e1
 ny:∀d∈x.writes,d∈ny
theorem Bu.symm {x y:bW} {e1 ny:List Nat} (h:Bu x y e1 ny):Bu y x ny e1:=⟨h.lP,h.lO,fun d h1 h2=>h.ww d h2 h1,h.Wm,h.Wl,h.ny,h.e1⟩
theorem Bu.alike {x y:bW} {e1 ny:List Nat} (h:Bu x y e1 ny) {cu:Option (Nat×cm)} {v:ag} (aj:∀i b,cu=some (i,b)→i∈x.writes):Alike y ny σ (app cu x.dst v σ)where
 ops:=fun t ae=>qZ _ _ _ _ _ fun e=>h.lO t e (ti ae)
 Wk:=fun t w ae=>qZ _ _ _ _ _ fun e=>h.lO t e (r9 ae)
 aA:=fun j aF=>alR fun i b e ei=>by
  subst ei
  have hi:=aj _ _ e
  rcases aF with aF|aF
  ·exact aF (h.ny _ hi)
  ·exact h.ww _ hi aF
theorem Alike.symm {o:bW} {cl:List Nat} (h:Alike o cl σ σ'):Alike o cl σ' σ:=⟨fun t ae=>(h.ops t ae).symm,fun t w ae=>(h.Wk t w ae).symm,fun j aF=>(h.aA j aF).symm⟩
theorem amV {x y:bW} {e1 ny:List Nat} (h:Bu x y e1 ny) {cu rN:Option (Nat×cm)} {v cR:ag} (aj:∀i b,cu=some (i,b)→i∈x.writes) (hy:∀i b,rN=some (i,b)→i∈y.writes):
 app rN y.dst cR (app cu x.dst v σ)=app cu x.dst v (app rN y.dst cR σ):=by
 have aD:∀d,x.dst=some d→y.dst≠some d:=fun d e e'=>h.lO d e (Co e')
 have aN:(app rN y.dst cR (app cu x.dst v σ)).af=(app cu x.dst v (app rN y.dst cR σ)).af:=by
  funext t
  by_cases h1:x.dst=some t
  ·rw[qZ _ _ _ _ _ (aD t h1)]
   unfold app
   rw[fX,fX,if_pos h1,if_pos h1]
  ·rw[qZ _ _ _ _ _ h1]
   unfold app
   rw[fX,fX]
   by_cases h2:y.dst=some t
   ·rw[if_pos h2,if_pos h2]
   ·rw[if_neg h2,if_neg h2]
    have:∀(o:Option (Nat×cm)) (σ:St),(match o with|some (i,b)=>σ.ea i b|none=>σ).af t=σ.af t:=by intro o σ;cases o<;>rfl
    rw[this,this,fX,if_neg h1,this]
 have aX:(app rN y.dst cR (app cu x.dst v σ)).aA=(app cu x.dst v (app rN y.dst cR σ)).aA:=by
  funext j
  rw[u4,u4,u4,u4]
  cases cu with
  |none=>rfl
  |some DU=>
   cases rN with
   |none=>rfl
   |some O7=>
    have h1:=aj DU.1 DU.2 rfl
    have h2:=hy O7.1 O7.2 rfl
    have eB:DU.1≠O7.1:=fun e=>h.ww _ h1 (e▸h2)
    simp only
    by_cases Ar:j=DU.1
    ·have cc:¬j=O7.1:=by omega
     simp only[Ar,if_true]
     rw[if_neg (by omega)]
    ·rw[if_neg Ar];split<;>simp_all
 cases aq:app rN y.dst cR (app cu x.dst v σ)with|mk t1 bM=>
 cases aK:app cu x.dst v (app rN y.dst cR σ)with|mk t2 aW=>
 rw[aq,aK]at aN aX
 simp only at aN aX
 rw[aN,aX]
theorem alS {x y:bW} {e1 ny:List Nat} (h:Bu x y e1 ny) {r:List (bW×List Nat)} (ad:di Γ K ((x,e1)::(y,ny)::r) σ):di Γ K ((y,ny)::(x,e1)::r) σ:=by
 have HE:=Y2 (Γ:=Γ) h.Wl
 have jH:=Y2 (Γ:=Γ) h.Wm
 rw[tl _ _ _ HE]at ad
 rw[tl _ _ _ jH]
 obtain⟨cu,v,h1,h2⟩:=ad
 rw[tl _ _ _ jH]at h2
 obtain⟨rN,cR,aq,aK⟩:=h2
 have aj:=Xe h.Wl h1
 have hy:=Xe h.Wm aq
 have KE:=h.alike (σ:=σ) (v:=v) aj
 refine⟨rN,cR,Mf KE.symm aq,?_⟩
 rw[tl _ _ _ HE]
 refine⟨cu,v,Mf (h.symm.alike (σ:=σ) (v:=cR) hy) h1,?_⟩
 rw[←amV h aj hy]
 exact aK
structure NS (x y:bW):Prop where
 lO:∀d,x.dst=some d→d∉y.q3
 lP:∀d,y.dst=some d→d∉x.q3
theorem CK {o:bW} {cl:List Nat} (hm:o.kh=true) (h1:∀t,bk.t t∈o.op.ops→σ'.af t=σ.af t) (h2:∀t w,o.guard=some (t,w)→σ'.af t=σ.af t) {cu:Option (Nat×cm)} {v:ag} (aE:sm Γ o cl σ cu v):sm Γ o cl σ' cu v:=by
 unfold sm at*
 have bb:q7 σ' o.guard=q7 σ o.guard:=by
  cases KD:o.guard with
  |none=>rfl
  |some zd=>simp only[q7,h2 zd.1 zd.2 KD]
 rw[bb]
 cases o with|mk dst op g=>
 cases op with
 |bg x=>
  have aj:σ'.aU x=σ.aU x:=by
   cases x with
   |t t=>exact h1 t (by simp[bx.ops])
   |c d=>rfl
  have aH:cr σ' (bx.ops (.bg x))=cr σ (bx.ops (.bg x)):=by simp only[bx.ops,cr,List.map_cons,List.map_nil,aj]
  split at aE
  ·refine⟨by rw[aH];exact aE.1,?_⟩
   have h2:=aE.2
   simp only[BU,yD,bx.makes,Bool.false_eq_true,if_false,bf]at h2⊢
   rw[aj];exact h2
  ·exact aE
  ·exact aE.elim
 |_=>cases hm
theorem SL {o:bW} {cl:List Nat} (hm:o.kh=true) {cu:Option (Nat×cm)} {v:ag} (aE:sm Γ o cl σ cu v):cu=none:=by
 unfold sm at aE
 cases o with|mk dst op g=>
 cases op with
 |bg x=>
  split at aE
  ·have h2:=aE.2
   simp only[BU,yD,bx.makes,Bool.false_eq_true,if_false]at h2
   exact h2.1
  ·exact aE.1
  ·exact aE.elim
 |_=>cases hm
theorem Yr {d hQ:Option Nat} {cu:Option (Nat×cm)} {v cR:ag} (aD:∀t,d=some t→hQ≠some t):app cu hQ cR (app none d v σ)=app none d v (app cu hQ cR σ):=by
 have aN:(app cu hQ cR (app none d v σ)).af=(app none d v (app cu hQ cR σ)).af:=by
  funext t
  by_cases h1:d=some t
  ·rw[qZ _ _ _ _ _ (aD t h1)]
   unfold app
   rw[fX,fX,if_pos h1,if_pos h1]
  ·rw[qZ _ _ _ _ _ h1]
   unfold app
   rw[fX,fX]
   by_cases h2:hQ=some t
   ·rw[if_pos h2,if_pos h2]
   ·rw[if_neg h2,if_neg h2]
    have:∀(o:Option (Nat×cm)) (σ:St),(match o with|some (i,b)=>σ.ea i b|none=>σ).af t=σ.af t:=by intro o σ;cases o<;>rfl
    rw[this,this,fX,if_neg h1]
 have aX:(app cu hQ cR (app none d v σ)).aA=(app none d v (app cu hQ cR σ)).aA:=by
  funext j
  rw[u4,u4,u4,u4]
 cases aq:app cu hQ cR (app none d v σ)with|mk t1 bM=>
 cases aK:app none d v (app cu hQ cR σ)with|mk t2 aW=>
 rw[aq,aK]at aN aX
 simp only at aN aX
 rw[aN,aX]
theorem Q9:∀(is:List Nat) (cs:List BC) (σ:St),(iD σ is cs).af=σ.af
 |[],_,_=>by simp only[iD]
 |i::r,[],_=>by simp only[iD]
 |i::r,c::cs,σ=>by
  simp only[iD]
  split
  ·rw[Q9 r cs];rfl
  ·exact Q9 r cs σ
theorem QO:∀(is:List Nat) (cs:List BC) (σ:St) (d:Option Nat) (v:ag),iD (σ.put d v) is cs=(iD σ is cs).put d v
 |[],_,_,_,_=>by simp only[iD]
 |i::r,[],_,_,_=>by simp only[iD]
 |i::r,c::cs,σ,d,v=>by
  simp only[iD,pQ]
  cases aw:σ.aA i with
  |none=>exact QO r cs σ d v
  |some b=>
   simp only
   rw[←QO r cs]
   congr 1
   cases d<;>rfl
theorem Xf (σ:St) (p:Nat→Bool) (d:Option Nat) (v:ag):∀is:List Nat,contents (σ.put d v) p is=contents σ p is
 |[]=>rfl
 |i::r=>by simp only[contents,pQ,Xf σ p d v r]
theorem RQ (σ:St) {d e:Option Nat} {u v:ag} (h:∀t,d=some t→e≠some t):(σ.put e u).put d v=(σ.put d v).put e u:=by
 have aN:((σ.put e u).put d v).af=((σ.put d v).put e u).af:=by
  funext t
  rw[fX,fX,fX,fX]
  by_cases h1:d=some t
  ·rw[if_pos h1,if_neg (h t h1),if_pos h1]
  ·rw[if_neg h1,if_neg h1]
 have aX:((σ.put e u).put d v).aA=((σ.put d v).put e u).aA:=by rw[pQ,pQ,pQ,pQ]
 cases aq:(σ.put e u).put d v with|mk t1 bM=>
 cases aK:(σ.put d v).put e u with|mk t2 aW=>
 rw[aq,aK]at aN aX
 simp only at aN aX
 rw[aN,aX]
theorem MU {C:gu} {dst:Option Nat} {vs:List ag} (h:sl C dst σ K vs):∃s,(∀t,dst≠some t→s.af t=σ.af t)∧K s∧
 ∀(d:Option Nat) (v:ag),(∀t,d=some t→dst≠some t)→∀fe:St→Prop,fe (s.put d v)→sl C dst (σ.put d v) fe vs:=by
 have aav:∀(d:Option Nat) (v:ag) (is:List Nat),reach (σ.put d v) is=reach σ is:=fun d v is=>by simp only[reach,pQ]
 unfold sl yn at h
 split at h
 ·rename_i OS ay
  obtain⟨h1,h2,aq,aK⟩:=h
  refine⟨_,fun t ae=> ?_,aK,fun d v aD fe ad=> ?_⟩
  ·rw[fX,if_neg ae,Q9]
  ·unfold sl yn
   rw[aav,aav,Xf,ay]
   refine⟨h1,h2,aq,?_⟩
   rw[QO,←RQ _ aD]
   exact ad
 ·exact h.elim
theorem Cp {x:bW} {e1:List Nat} (hm:x.kh=true) {r:List (bW×List Nat)} :di Γ K ((x,e1)::r) σ↔∃v,sm Γ x e1 σ none v∧di Γ K r (σ.put x.dst v):=by
 rw[tl _ _ _ (amU hm)]
 constructor
 ·rintro⟨cu,v,h1,h2⟩
  have:=SL hm h1
  subst this
  exact⟨v,h1,h2⟩
 ·rintro⟨v,h1,h2⟩
  exact⟨none,v,h1,h2⟩
theorem Y3 (σ:St) (d:Option Nat) {v:ag} (h:∀t,d=some t→σ.af t=v):σ.put d v=σ:=by
 have aN:(σ.put d v).af=σ.af:=by
  funext t
  rw[fX]
  by_cases aD:d=some t
  ·rw[if_pos aD,h t aD]
  ·rw[if_neg aD]
 have aX:(σ.put d v).aA=σ.aA:=pQ ..
 cases aq:σ.put d v with|mk t1 bM=>
 rw[aq]at aN aX
 simp only at aN aX
 rw[aN,aX]
theorem Y4 (σ:St) (d:Option Nat) (u v:ag):(σ.put d u).put d v=σ.put d v:=by
 have aN:((σ.put d u).put d v).af=(σ.put d v).af:=by
  funext t
  rw[fX,fX,fX]
  by_cases aD:d=some t
  ·rw[if_pos aD,if_pos aD]
  ·rw[if_neg aD,if_neg aD,if_neg aD]
 have aX:((σ.put d u).put d v).aA=(σ.put d v).aA:=by rw[pQ,pQ,pQ]
 cases aq:(σ.put d u).put d v with|mk t1 bM=>
 cases aK:σ.put d v with|mk t2 aW=>
 rw[aq,aK]at aN aX
 simp only at aN aX
 rw[aN,aX]
def S9 (Γ:Env) (o:bW) (cl:List Nat):Prop:=∃f bm C,o.op= .call f bm∧cl=[]∧Γ.mt f=some C
theorem MV (o:bW) (cl:List Nat):EL Γ o cl∨S9 Γ o cl:=by
 cases o with|mk dst op g=>
 cases op with
 |call f bm=>
  cases cl with
  |nil=>
   cases h:Γ.mt f with
   |none=>exact .inl h
   |some C=>exact .inr ⟨f,bm,C,rfl,rfl,h⟩
  |cons _ _=>exact .inl trivial
 |_=>exact .inl trivial
theorem ID {o:bW} {cl:List Nat} {f:Nat} {bm:List bk} {C:gu} (h1:o.op= .call f bm) (h2:cl=[]) (aq:Γ.mt f=some C):vH Γ o cl σ K↔sl C o.dst σ K (cr σ bm):=by
 subst h2
 cases o with|mk dst op g=>
 simp only at h1
 subst h1
 unfold vH
 simp only[Bf,aq]
 exact⟨fun h=>h.2,fun h=>⟨rfl,h⟩⟩
theorem Ys {o:bW} {f:Nat} {bm:List bk} (h:o.op= .call f bm) (e:∀t,bk.t t∈o.op.ops→σ'.af t=σ.af t):cr σ' bm=cr σ bm:=by
 rw[h]at e
 simp only[bx.ops]at e
 unfold cr
 refine List.map_congr_left fun x aj=> ?_
 cases x with
 |t t=>exact e t aj
 |c d=>rfl
theorem QP {o:bW} (e:∀t w,o.guard=some (t,w)→σ'.af t=σ.af t):q7 σ' o.guard=q7 σ o.guard:=by
 cases KD:o.guard with
 |none=>rfl
 |some zd=>simp only[q7,e zd.1 zd.2 KD]
theorem akS {x y:bW} {e1 ny:List Nat} (h:NS x y) (hm:x.kh=true) (bb:S9 Γ y ny) {r:List (bW×List Nat)} (ad:di Γ K ((x,e1)::(y,ny)::r) σ):di Γ K ((y,ny)::(x,e1)::r) σ:=by
 obtain⟨f,bm,C,ct,db,fc⟩:=bb
 rw[Cp hm]at ad
 obtain⟨v,aE,ad⟩:=ad
 have KF:∀t,x.dst=some t→y.dst≠some t:=fun t e e'=>h.lO t e (Co e')
 have ae7:∀t,y.dst=some t→x.dst≠some t:=fun t e e'=>h.lP t e (Co e')
 simp only[di]at ad
 show guarded σ y.guard (vH Γ y ny σ (di Γ K ((x,e1)::r))) (di Γ K ((x,e1)::r) (σ.put y.dst .dB))
 rw[AG]at ad⊢
 rw[QP (σ':=σ.put x.dst v) (σ:=σ) (fun t w e=>by rw[fX,if_neg (fun e'=>h.lO t e' (r9 e))])]at ad
 rcases ad with ⟨bh,bB⟩|⟨bh,bB⟩
 ·refine .inl ⟨bh,?_⟩
  rw[ID ct db fc]at bB⊢
  rw[Ys (σ':=σ.put x.dst v) (σ:=σ) ct (fun t ae=>by rw[fX,if_neg (fun e'=>h.lO t e' (ti ae))])]at bB
  obtain⟨s,s1,s2,qA⟩:=MU bB
  cases aD:x.dst with
  |none=>
   have:=qA none .dB (fun t e=>by cases e) (di Γ K ((x,e1)::r)) ((Cp hm).2 ⟨v,CK hm (fun t ae=> ?_) (fun t w e=> ?_) aE,?_⟩)
   ·rw[aD]at this;exact this
   ·rw[show s.put none .dB=s from rfl,s1 t (fun e'=>h.lP t e' (ti ae)),aD];rfl
   ·rw[show s.put none .dB=s from rfl,s1 t (fun e'=>h.lP t e' (r9 e)),aD];rfl
   ·rw[aD];exact s2
  |some d=>
   have:=qA (some d) (σ.af d) (fun t e=>KF t (aD.trans e)) (di Γ K ((x,e1)::r)) ((Cp hm).2 ⟨v,CK hm (fun t ae=> ?_) (fun t w e=> ?_) aE,?_⟩)
   ·rw[aD,Y4,Y3 _ _ (fun t e=>by cases e;rfl)]at this
    exact this
   ·rw[fX]
    split
    ·rename_i e;cases e;rfl
    ·rename_i eB
     rw[s1 t (fun e'=>h.lP t e' (ti ae)),aD,fX,if_neg eB]
   ·rw[fX]
    split
    ·rename_i e';cases e';rfl
    ·rename_i eB
     rw[s1 t (fun e'=>h.lP t e' (r9 e)),aD,fX,if_neg eB]
   ·rw[aD,Y4,Y3]
    ·exact s2
    ·intro t e
     rw[s1 t (KF t (aD.trans e)),aD,fX,if_pos e]
 ·refine .inr ⟨bh,?_⟩
  refine(Cp hm).2 ⟨v,CK hm (fun t ae=> ?_) (fun t w e=> ?_) aE,?_⟩
  ·rw[fX,if_neg (fun e'=>h.lP t e' (ti ae))]
  ·rw[fX,if_neg (fun e'=>h.lP t e' (r9 e))]
  ·rw[RQ _ KF];exact bB
theorem akm {x y:bW} {e1 ny:List Nat} (h:NS x y) (hm:y.kh=true) (bb:S9 Γ x e1) {r:List (bW×List Nat)} (ad:di Γ K ((x,e1)::(y,ny)::r) σ):di Γ K ((y,ny)::(x,e1)::r) σ:=by
 obtain⟨f,bm,C,ct,db,fc⟩:=bb
 have KF:∀t,x.dst=some t→y.dst≠some t:=fun t e e'=>h.lO t e (Co e')
 have ae7:∀t,y.dst=some t→x.dst≠some t:=fun t e e'=>h.lP t e (Co e')
 rw[Cp hm]
 simp only[di]at ad
 rw[AG]at ad
 rcases ad with ⟨bh,bB⟩|⟨bh,bB⟩
 ·rw[ID ct db fc]at bB
  obtain⟨s,s1,s2,qA⟩:=MU bB
  have O8:di Γ K ((y,ny)::r) s:=s2
  rw[Cp hm]at O8
  obtain⟨v,aE,ar⟩:=O8
  refine⟨v,CK hm (fun t ae=> ?_) (fun t w e=> ?_) aE,?_⟩
  ·rw[s1 t (fun e'=>h.lO t e' (ti ae))]
  ·rw[s1 t (fun e'=>h.lO t e' (r9 e))]
  ·simp only[di]
   rw[AG,QP (σ':=σ.put y.dst v) (σ:=σ) (fun t w e=>by rw[fX,if_neg (fun e'=>h.lP t e' (r9 e))])]
   refine .inl ⟨bh,?_⟩
   rw[ID ct db fc,Ys (σ':=σ.put y.dst v) (σ:=σ) ct (fun t ae=>by rw[fX,if_neg (fun e'=>h.lP t e' (ti ae))])]
   exact qA y.dst v ae7 _ ar
 ·have ae8:di Γ K ((y,ny)::r) (σ.put x.dst .dB):=bB
  rw[Cp hm]at ae8
  obtain⟨v,aE,ar⟩:=ae8
  refine⟨v,CK hm (fun t ae=> ?_) (fun t w e=> ?_) aE,?_⟩
  ·rw[fX,if_neg (fun e'=>h.lO t e' (ti ae))]
  ·rw[fX,if_neg (fun e'=>h.lO t e' (r9 e))]
  ·simp only[di]
   rw[AG,QP (σ':=σ.put y.dst v) (σ:=σ) (fun t w e=>by rw[fX,if_neg (fun e'=>h.lP t e' (r9 e))])]
   refine .inr ⟨bh,?_⟩
   rw[RQ _ KF];exact ar
theorem akT {x y:bW} {e1 ny:List Nat} (h:NS x y) (hm:x.kh=true∨y.kh=true) {r:List (bW×List Nat)} (ad:di Γ K ((x,e1)::(y,ny)::r) σ):di Γ K ((y,ny)::(x,e1)::r) σ:=by
 rcases MV (Γ:=Γ) x e1 with HE|P8
 case inr=>
  rcases hm with hm|hm
  ·obtain⟨f,bm,C,ct,_⟩:=P8
   cases x with|mk dst op g=>simp only at ct;subst ct;cases hm
  ·exact akm h hm P8 ad
 rcases MV (Γ:=Γ) y ny with jH|ai8
 case inr=>
  rcases hm with hm|hm
  ·exact akS h hm ai8 ad
  ·obtain⟨f,bm,C,ct,_⟩:=ai8
   cases y with|mk dst op g=>simp only at ct;subst ct;cases hm
 rw[tl _ _ _ HE]at ad
 rw[tl _ _ _ jH]
 obtain⟨cu,v,h1,h2⟩:=ad
 rw[tl _ _ _ jH]at h2
 obtain⟨rN,cR,aq,aK⟩:=h2
 rcases hm with hm|hm
 ·have:=SL hm h1
  subst this
  have KE:Alike y ny (app none x.dst v σ) σ:=⟨fun t ae=>(qZ _ _ _ _ _ fun e=>h.lO t e (ti ae)).symm,fun t w ae=>(qZ _ _ _ _ _ fun e=>h.lO t e (r9 ae)).symm,fun j _=>by rw[u4]⟩
  refine⟨rN,cR,Mf KE aq,?_⟩
  rw[tl _ _ _ HE]
  refine⟨none,v,CK hm (fun t ae=>qZ _ _ _ _ _ fun e=>h.lP t e (ti ae)) (fun t w ae=>qZ _ _ _ _ _ fun e=>h.lP t e (r9 ae)) h1,?_⟩
  rw[←Yr (fun t e e'=>h.lO t e (Co e'))]
  exact aK
 ·have:=SL hm aq
  subst this
  refine⟨none,cR,CK hm (fun t ae=>(qZ _ _ _ _ _ fun e=>h.lO t e (ti ae)).symm) (fun t w ae=>(qZ _ _ _ _ _ fun e=>h.lO t e (r9 ae)).symm) aq,?_⟩
  rw[tl _ _ _ HE]
  have KE:Alike x e1 σ (app none y.dst cR σ):=⟨fun t ae=>qZ _ _ _ _ _ fun e=>h.lP t e (ti ae),fun t w ae=>qZ _ _ _ _ _ fun e=>h.lP t e (r9 ae),fun j _=>by rw[u4]⟩
  refine⟨cu,v,Mf KE h1,?_⟩
  rw[Yr (fun t e e'=>h.lP t e (Co e'))]
  exact aK
def SM (x y:bW) (e1 ny:List Nat):Prop:=Bu x y e1 ny∨(NS x y∧(x.kh=true∨y.kh=true))
theorem akU {x y:bW} {e1 ny:List Nat} (h:SM x y e1 ny) {r:List (bW×List Nat)} (ad:di Γ K ((x,e1)::(y,ny)::r) σ):di Γ K ((y,ny)::(x,e1)::r) σ:=by
 rcases h with h|⟨h,hm⟩
 ·exact alS h ad
 ·exact akT h hm ad
theorem alT {o:bW} {cl:List Nat} {A B:List (bW×List Nat)} (UM:∀s,di Γ K A s→di Γ K B s) (h:di Γ K ((o,cl)::A) σ):di Γ K ((o,cl)::B) σ:=by
 rcases MV (Γ:=Γ) o cl with p|⟨f,bm,C,ct,db,fc⟩
 ·rw[tl _ _ _ p]at*
  obtain⟨cu,v,h1,h2⟩:=h
  exact⟨cu,v,h1,UM _ h2⟩
 ·simp only[di]at h⊢
  rw[AG]at h⊢
  rcases h with ⟨bh,bB⟩|⟨bh,bB⟩
  ·refine .inl ⟨bh,?_⟩
   rw[ID ct db fc]at bB⊢
   obtain⟨s,_,s2,qA⟩:=MU bB
   exact qA none .dB (fun t e=>by cases e) _ (UM _ s2)
  ·exact .inr ⟨bh,UM _ bB⟩
theorem XR {y:bW} {ny:List Nat} :∀{xs:List (bW×List Nat)} {r:List (bW×List Nat)},(∀x∈xs,SM x.1 y x.2 ny)→∀{σ:St},di Γ K (xs++(y,ny)::r) σ→di Γ K ((y,ny)::(xs++r)) σ
 |[],r,_,σ,ad=>ad
 |x::xs,r,h,σ,ad=>by
  refine akU (h x (by simp)) ?_
  rw[List.cons_append]at ad
  exact alT (fun s aE=>XR (fun z bp=>h z (by simp[bp])) aE) ad
end
end RV
namespace RV
open Go Go.RowKit
section
variable {ops:Array Oper}
theorem ajW {after:Array Edge} {acc:Array Nat} {k:Nat} (ad:acc.size=k):∀i,(after.foldl (fun s e=>if Region.binds .any e then s|||2^e.on|||acc.getD e.on 0 else s) 0).testBit i=true→
 ∃e∈after,Region.binds .any e=true∧(e.on=i∨(e.on<k∧(acc.getD e.on 0).testBit i=true)):=by
 refine Array.foldl_induction (motive:=fun _ (s:Nat)=>∀i,s.testBit i=true→∃e∈after,Region.binds .any e=true∧(e.on=i∨(e.on<k∧(acc.getD e.on 0).testBit i=true))) (fun i h=>by simp at h) ?_
 intro j s cJ i h
 have hm:after[j]∈after:=Array.getElem_mem j.2
 generalize after[j]=b8 at h hm
 split at h
 ·rename_i aw
  rw[Nat.testBit_or,Nat.testBit_or,Bool.or_eq_true,Bool.or_eq_true]at h
  rcases h with (h|h)|h
  ·exact cJ i h
  ·rw[Nat.testBit_two_pow]at h
   exact⟨_,hm,aw,.inl (by simpa using h)⟩
  ·refine⟨_,hm,aw,.inr ⟨?_,h⟩⟩
   rcases Nat.lt_or_ge b8.on acc.size with et|et
   ·omega
   ·simp[Array.getD_eq_getD_getElem?,Array.getElem?_eq_none et]at h
 ·exact cJ i h
theorem Xu {j:Nat} {o:Oper} (bz:ops[j]? =some o):∀i,((Region.before ops).getD j 0).testBit i=true→
 ∃e∈o.after,Region.binds .any e=true∧(e.on=i∨(e.on<j∧((Region.before ops).getD e.on 0).testBit i=true)):=by
 have main:(Region.before ops).size=ops.size∧∀j,j<ops.size→∀o,ops[j]? =some o→∀i,((Region.before ops).getD j 0).testBit i=true→
  ∃e∈o.after,Region.binds .any e=true∧(e.on=i∨(e.on<j∧((Region.before ops).getD e.on 0).testBit i=true)):=by
  refine Array.foldl_induction (motive:=fun k (acc:Array Nat)=>acc.size=k∧∀j,j<k→∀o,ops[j]? =some o→∀i,(acc.getD j 0).testBit i=true→
   ∃e∈o.after,Region.binds .any e=true∧(e.on=i∨(e.on<j∧(acc.getD e.on 0).testBit i=true))) ⟨rfl,fun j aF=>by omega⟩ ?_
  rintro k acc ⟨aE,cJ⟩
  refine⟨by simp[aE],fun j aF o bz i hi=> ?_⟩
  have old:∀m (v:Nat),m<acc.size→(acc.push v).getD m 0=acc.getD m 0:=fun m v hm=>by
   simp[Array.getD_eq_getD_getElem?,Array.getElem?_push,Nat.ne_of_lt hm]
  rcases Nat.lt_or_ge j k.1 with bl|sN
  ·rw[old j _ (by omega)]at hi
   obtain⟨e,he,aw,h⟩:=cJ j bl o bz i hi
   refine⟨e,he,aw,h.imp id fun⟨h1,h2⟩=>⟨h1,?_⟩⟩
   rw[old _ _ (by omega)];exact h2
  ·have sG:j=k.1:=by omega
   subst sG
   have jw:o=ops[k]:=by
    rw[Array.getElem?_eq_getElem k.2]at bz
    simpa using bz.symm
   have aB:(acc.push (ops[k].after.foldl (fun s e=>if Region.binds .any e then s|||2^e.on|||acc.getD e.on 0 else s) 0)).getD k.1 0=ops[k].after.foldl (fun s e=>if Region.binds .any e then s|||2^e.on|||acc.getD e.on 0 else s) 0:=by
    rw[Array.getD_eq_getD_getElem?,Array.getElem?_push,if_pos aE.symm];rfl
   rw[show ((acc.push _).getD k.1 0=_)from aB]at hi
   obtain⟨e,he,aw,h⟩:=ajW aE i hi
   refine⟨e,by rw[jw];exact he,aw,h.imp id fun⟨h1,h2⟩=>⟨h1,?_⟩⟩
   rw[old _ _ (by omega)];exact h2
 exact main.2 j (Array.getElem?_eq_some_iff.1 bz).1 o bz
theorem W3 {b:Array Nat} {j:Nat} (h:En b j=true) {i:Nat} (hi:i<j):(b.getD j 0).testBit i=true:=by
 simp only[En,List.all_eq_true,List.mem_range]at h
 exact h i hi
theorem QG {b:Array Nat} :∀{n j:Nat},n - jQ b n≤j→j<n→En b j=true
 |0,j,_,h=>by omega
 |n+1,j,h1,h2=>by
  unfold jQ at h1
  split at h1
  ·rename_i hw
   rcases Nat.lt_or_ge j n with h|h
   ·exact QG (n:=n) (by omega) h
   ·have:j=n:=by omega
    subst this;exact hw
  ·omega
def EM (ops:Array Oper) (L:Array Bool):Prop:=∀k o,ops[k]? =some o→L.getD k false=true→∀e∈o.after,Region.binds .any e=true→L.getD e.on false=true
theorem W4 {L:Array Bool} (ay:EM ops L):∀(n j:Nat),j<n→j<ops.size→L.getD j false=true→∀i,((Region.before ops).getD j 0).testBit i=true→L.getD i false=true
 |0,j,h,_,_=>by omega
 |n+1,j,h,aF,aH=>by
  intro i hi
  obtain⟨e,he,aw,et⟩:=Xu (Array.getElem?_eq_getElem aF) i hi
  have hle:=ay j _ (Array.getElem?_eq_getElem aF) aH e he aw
  rcases et with rfl|⟨h1,h2⟩
  ·exact hle
  ·exact W4 ay n e.on (by omega) (by omega) hle i h2
theorem Qu {L:Array Bool} (ay:EM ops L) {j:Nat} (ar:j∈Region.ready .any ops L):∀i,((Region.before ops).getD j 0).testBit i=true→L.getD i false=true:=by
 obtain⟨_,o,bz,oY⟩:=mem_ready.1 ar
 intro i hi
 obtain⟨e,he,aw,et⟩:=Xu bz i hi
 have hle:=oY e he aw
 rcases et with rfl|⟨h1,h2⟩
 ·exact hle
 ·exact W4 ay _ e.on (Nat.lt_succ_self _) (by have:=(Array.getElem?_eq_some_iff.1 bz).1;omega) hle i h2
theorem akV {L:Array Bool} (ay:EM ops L) {j:Nat} (ar:j∈Region.ready .any ops L):EM ops (L.setIfInBounds j true):=by
 obtain⟨_,o,bz,oY⟩:=mem_ready.1 ar
 intro k o' jw ad e he aw
 refine getD_set_true ?_
 by_cases ae9:j=k
 ·subst ae9
  rw[bz]at jw
  simp only[Option.some.injEq]at jw
  subst jw
  exact oY e he aw
 ·rw[getD_set_ne false ae9]at ad
  exact ay k o' jw ad e he aw
end
section
variable {N:Nat} {aR:e3} {aL:Mem} {R:bU} {σ σ':St} {a:Act} {w w':World} {rd rd':Mem} {β β':bU} {P:Program} {Γ:Env} {ops:Array Oper}
theorem eW.wpOp {i:Nat} {o:Oper} (bz:ops[i]? =some o) {K:St→Prop} {next:Act→World→Prop} {Q:Exit→Act→World→Prop} (hw:Region.wanted o (yielded ops a.tmps)=true) (h:eW P N aR aL R o a w K)
 (aJ:∀σ' b7 w' rd' β',K σ'→bd N aR aL R σ' b7 w' rd' β'→next b7 w'):wpOp P ops Q i next a w:=by
 unfold Go.wpOp
 simp only[bz,hw,if_true]
 exact .inl (h next Q aJ)
theorem amW (c6:ah P aL Γ) (h:bd N aR aL R σ a w rd β) {o:Oper} {l:bx} (ae:cS P o.type o.op=some l) (aD:hK N o.dst=true) {g:Option (Nat×Bool)} {cl:List Nat} {K:St→Prop}
 (ad:vH Γ ⟨o.dst,l,g⟩ cl σ K):eW P N aR aL R o a w K:=by
 unfold vH at ad
 obtain⟨_,ad⟩:=ad
 have makes:l.makes=true→tH Γ o.dst l σ K→eW P N aR aL R o a w K:=by
  intro hm ad
  unfold tH at ad
  rw[if_pos hm]at ad
  cases p8:o.dst with
  |none=>rw[p8]at ad;exact ad.elim
  |some i=>
   rw[p8]at ad
   obtain⟨hi,ad⟩:=ad
   have hg:β i=none:=by
    cases e:β i with
    |none=>rfl
    |some r=>obtain⟨b,aw,_⟩:=h.box i r e;rw[hi]at aw;cases aw
   refine Ej h ae hm aD (i:=i) (g:=fun b=>σ.ea i b) (by rw[p8];exact ad) (fun b=>aj9 h hi b) (fun x _ r vs ar=> ?_)
   refine bY.ext (fun j r' aF=> ?_) _ _ ar
   by_cases e:j=i
   ·subst e;rw[hg]at aF;cases aF
   ·simpa [fN,e]using aF
 have value:l.makes=false→tH Γ o.dst l σ K→eW P N aR aL R o a w K:=by
  intro hm ad
  unfold tH at ad
  rw[if_neg (by rw[hm];simp)]at ad
  exact Yo c6 h ae aD ad
 cases l with
 |store n x y=>
  simp only at ad
  obtain⟨p8,ad⟩:=ad
  rw[H9]at ad
  obtain⟨i,b,h1,h2⟩:=ad
  cases cl with
  |nil=>
   simp only[uX,yc]at h1
   split at h1
   ·rename_i lM off aQ
    split at h1
    ·rename_i e c aw
     obtain⟨aq,aK,h1⟩:=h1
     split at h1
     ·rename_i c' ay
      obtain⟨rfl,rfl⟩:=h1
      exact Ic h ae aD aw aq aK (.inl ⟨off,aQ,ay⟩) (by rw[p8];exact h2)
     ·exact h1.elim
    ·exact h1.elim
   ·rename_i lM j off aQ
    split at h1
    ·rename_i e c aw
     obtain⟨aq,aK,h1⟩:=h1
     split at h1
     ·rename_i c' ay
      obtain⟨rfl,rfl⟩:=h1
      exact Ic h ae aD aw aq aK (.inr ⟨j,off,aQ,ay⟩) (by rw[p8];exact h2)
     ·exact h1.elim
    ·exact h1.elim
   ·exact h1.elim
  |cons _ _=>
  simp only[uX]at h1
  obtain⟨p,off,rfl,aQ⟩:=Xt h1
  simp only[stored,aQ]at h1
  obtain⟨_,h1⟩:=h1
  split at h1
  ·rename_i e c aw
   obtain⟨aq,aK,h1⟩:=h1
   split at h1
   ·rename_i c' ay
    obtain⟨rfl,rfl⟩:=h1
    exact Ic h ae aD aw aq aK (.inl ⟨off,aQ,ay⟩) (by rw[p8];exact h2)
   ·exact h1.elim
  ·exact h1.elim
 |call f bm=>
  simp only[Bf]at ad
  split at ad
  ·rename_i aAk gV
   obtain⟨p,c1,bw,has⟩:=XO ae
   have c0:=c6.2 f _ (by assumption)
   exact QN c0 h aD (us:=p.map a.eval) (by simpa using qP h has) (Q5 bw c0.1) (Ee σ _).1 (fun i hi=>(Ee σ _).2 i ((Ee σ _).2 i (H4 (CA _ i hi)))) ad
  ·exact value rfl ad
 |alloc z=>exact makes rfl ad
 |box z=>exact makes rfl ad
 |rJ _ _ z=>exact makes rfl ad
 |nil z=>exact makes rfl ad
 |q0 z=>exact makes rfl ad
 |_=>exact value rfl ad
theorem akW (c6:ah P aL Γ) (h:bd N aR aL R σ a w rd β) {M:Nat} (cg:M≤N) {i:Nat} {o:Oper} (bz:ops[i]? =some o) {lo:bW} (ae:se P M ops o=some lo) {cl:List Nat} {r:List (bW×List Nat)} {K:St→Prop}
 (ad:di Γ K ((lo,cl)::r) σ) {next:Act→World→Prop} {Q:Exit→Act→World→Prop} (aJ:∀σ' b7 w' rd' β',di Γ K r σ'→bd N aR aL R σ' b7 w' rd' β'→next b7 w'):wpOp P ops Q i next a w:=by
 obtain⟨l,g,h1,h2,aq,rfl⟩:=H8 ae
 have aD:=Mp cg aq
 simp only[di]at ad
 rcases Me h h2 ad with ⟨hw,ad⟩|⟨hw,ad⟩
 ·exact eW.wpOp bz hw (amW c6 h h1 aD ad) aJ
 ·unfold Go.wpOp
  simp only[bz,hw,Bool.false_eq_true,if_false]
  exact aJ _ _ _ _ _ ad (h.put aD (by simp only[aT]))
theorem akX (c6:ah P aL Γ) (h:bd N aR aL R σ a w rd β) {M:Nat} (cg:M≤N) {i:Nat} {o:Oper} (bz:ops[i]? =some o) {lo:bW} (ae:se P M ops o=some lo) {r:List bW} {K:St→Prop}
 (ad:hc Γ K (lo::r) σ) {next:Act→World→Prop} {Q:Exit→Act→World→Prop} (aJ:∀σ' b7 w' rd' β',hc Γ K r σ'→bd N aR aL R σ' b7 w' rd' β'→next b7 w'):wpOp P ops Q i next a w:=by
 obtain⟨l,g,h1,h2,aq,rfl⟩:=H8 ae
 have aD:=Mp cg aq
 simp only[hc]at ad
 rcases Me h h2 ad with ⟨hw,ad⟩|⟨hw,ad⟩
 ·exact eW.wpOp bz hw (Q8 c6 h h1 aD ad) aJ
 ·unfold Go.wpOp
  simp only[bz,hw,Bool.false_eq_true,if_false]
  exact aJ _ _ _ _ _ ad (h.put aD (by simp only[aT]))
theorem bd.lose (h:bd N aR aL R σ a w rd β) (i:Nat):bd N aR aL R ⟨fun t=>(σ.af t).kill i,fun j=>if j=i then none else (σ.aA j).map (cm.kill i)⟩ a w rd (fN β i none)where
 size:=h.size
 defers:=h.defers
 cO:=h.cO
 dH:=fun k o ad=>⟨(h.dH k o ad).1.to (fun _ _ e _=> .inl e) (fun j r' aF e=>by
  by_cases q:j=i
  ·subst q;rw[tk]at aF;cases aF
  ·exact⟨j,r',by simpa [fN,q]using aF,e⟩),(h.dH k o ad).2⟩
 dg:=h.dg
 dR:=h.dR
 aL:=h.aL
 eR:=fun j r b aF aj bp aP a6=>by
  by_cases e:j=i
  ·subst e;rw[tk]at aF;cases aF
  ·simp only[fN,e,if_false]at aF aj
   obtain⟨cK,h0,_⟩:=h.box j r aF
   rw[h0]at aj
   simp only[Option.map_some,Option.some.injEq]at aj
   subst aj
   exact h.eR j r cK aF h0 bp aP a6
 eX:=fun t=>aT.kill (fun j aF=>by simp[fN,aF]) (h.eX t)
 box:=fun j r aF=>by
  by_cases e:j=i
  ·subst e;rw[tk]at aF;cases aF
  ·simp only[fN,e,if_false]at aF
   obtain⟨cK,h0,dO,eF,h1,h2⟩:=h.box j r aF
   refine⟨cK.kill i,by simp[e,h0],?_,eF.congr (by rw[cm.CI];exact Ec _ _),h1,h2⟩
   have:=dO.gK (β':=fN β i none) (f:=ag.kill i) (fun x v aj=>aT.kill (fun j aF=>by simp[fN,aF]) aj) (w':=w) (fun _ _ _=>rfl) (fun _=>rfl)
   rw[cm.CI]
   exact this
 eM:=fun j b aj aF=>by
  by_cases e:j=i
  ·subst e;simp at aj
  ·simp only[fN,e,if_false]at aF aj
   cases h0:σ.aA j with
   |none=>rw[h0]at aj;cases aj
   |some cK=>
    rw[h0]at aj
    simp only[Option.map_some,Option.some.injEq]at aj
    subst aj
    obtain⟨bh,bB⟩:=h.eM j cK h0 aF
    exact⟨bh,by rw[←bB,cm.CI];exact Ed _ cK.c⟩
 eE:=fun j k h9 lK sG aF ad=>by
  by_cases e:j=i
  ·subst e;rw[tk]at aF;cases aF
  ·by_cases e':k=i
   ·subst e';rw[tk]at ad;cases ad
   ·simp only[fN,e,e',if_false]at aF ad
    exact h.eE j k h9 lK sG aF ad
theorem bd.pT:∀(pre:List (bW×List Nat)) {σ:St} {β:bU},bd N aR aL R σ a w rd β→∃β',bd N aR aL R (RV.pT σ pre) a w rd β'
 |[],σ,β,h=>⟨β,h⟩
 |o::r,σ,β,h=>by
  unfold RV.pT
  split
  ·exact bd.pT r (h.lose _)
  ·exact bd.pT r h
end
end RV
namespace RV
open Go Go.RowKit
theorem lg.length {α iS:Type} {r:α→iS→Prop} :∀{xs:List α} {aC:List iS},lg r xs aC→xs.length=aC.length
 |_,_,.nil=>rfl
 |_,_,.cons _ t=>by simp[t.length]
theorem lg.get {α iS:Type} {r:α→iS→Prop} :∀{xs:List α} {aC:List iS},lg r xs aC→∀{i:Nat} {y:iS},aC[i]? =some y→∃x,xs[i]? =some x∧r x y
 |_,_,.nil,i,y,h=>by simp at h
 |_,_,.cons h0 t,0,y,h=>by simp only[List.getElem?_cons_zero,Option.some.injEq]at h;subst h;exact⟨_,rfl,h0⟩
 |_,_,.cons _ t,i+1,y,h=>by simpa using t.get (by simpa using h)
theorem XS {α:Type} :∀(l:List α) (k:Nat),(l.zipIdx k).Pairwise fun a b=>a.2<b.2
 |[],_=> .nil
 |x::xs,k=>by
  rw[List.zipIdx_cons]
  refine .cons (fun y hy=> ?_) (XS xs (k+1))
  have:=List.le_snd_of_mem_zipIdx hy
  simp only;omega
theorem Iv {L:Array Bool} {i:Nat} (h:i<L.size) (d e:Bool):L.getD i d=L.getD i e:=by
 simp[Array.getD_eq_getD_getElem?,h]
theorem Rr {L:Array Bool} {i j:Nat} (h:i<L.size):(L.setIfInBounds i true).getD j false=if j=i then true else L.getD j false:=by
 by_cases e:j=i
 ·subst e;rw[if_pos rfl];simp[Array.getD_eq_getD_getElem?,h]
 ·rw[if_neg e];exact getD_set_ne false (Ne.symm e)
theorem Qv {ops:Array Oper} (h:EB ops=true) {i:Nat} {o:Oper} (bz:ops[i]? =some o) {e:Edge} (he:e∈o.after) (aw:Region.binds .any e=true):e.on<i:=by
 simp only[EB,List.all_eq_true,Prod.forall]at h
 have:=h o i (by rw[List.mem_zipIdx_iff_getElem?];simpa using bz)
 simp only[Array.all_eq_true_iff_forall_mem,Bool.or_eq_true,Bool.not_eq_true',decide_eq_true_eq]at this
 rcases this e he with h|h
 ·rw[aw]at h;cases h
 ·exact h
section
variable {N:Nat} {aR:e3} {aL:Mem} {R:bU} {P:Program} {Γ:Env} {ops:Array Oper}
theorem Y5 (c6:ah P aL Γ) {M:Nat} (cg:M≤N) {l:List bW} (aH:lg (fun i lo=>∃o,ops[i]? =some o∧se P M ops o=some lo) (List.range ops.size) l) (c0:EB ops=true)
 {p:Nat} (aQ:∀j,p≤j→j<ops.size→En (Region.before ops) j=true) {K:St→Prop} {Q:Exit→Act→World→Prop} (cw:∀a w,jh N aR aL R K a w→Q .normal a w):
 ∀(fuel q:Nat) {L:Array Bool} {σ:St} {a:Act} {w:World} {rd:Mem} {β:bU},p≤q→fuel+q=ops.size→L.size=ops.size→(∀i,i<ops.size→(L.getD i false=true↔i<q))→
  bd N aR aL R σ a w rd β→hc Γ K (l.drop q) σ→wpAny P .any ops Q fuel L a w:=by
 intro fuel
 have hlen:l.length=ops.size:=by rw[←aH.length,List.length_range]
 induction fuel with
 |zero=>
  intro q L σ a w rd β sP aO aE dz ay ad
  have SN:Region.ready .any ops L=[]:=by
   cases ar:Region.ready .any ops L with
   |nil=>rfl
   |cons i is=>
    have hi:i∈Region.ready .any ops L:=by rw[ar];simp
    obtain⟨h0,o,bz,_⟩:=mem_ready.1 hi
    have gP:=(Array.getElem?_eq_some_iff.1 bz).1
    rw[Iv (by omega) true false,(dz i gP).2 (by omega)]at h0
    cases h0
  refine⟨SN,cw _ _ ⟨σ,rd,β,?_,ay⟩⟩
  rw[List.drop_of_length_le (by omega)]at ad
  exact ad
 |succ fuel cJ=>
  intro q L σ a w rd β sP aO aE dz ay ad
  have DA:q<ops.size:=by omega
  have aoq:EM ops L:=fun k o bz cE e he aw=>by
   have yZ:=(Array.getElem?_eq_some_iff.1 bz).1
   have:=Qv c0 bz he aw
   have:=(dz k yZ).1 cE
   exact(dz e.on (by omega)).2 (by omega)
  have I8:q∈Region.ready .any ops L:=mem_ready.2 ⟨by
   rw[Iv (by omega) true false]
   cases e:L.getD q false with
   |false=>rfl
   |true=>have:=(dz q DA).1 e;omega,ops[q],Array.getElem?_eq_getElem DA,fun e he aw=>by
    have:=Qv c0 (Array.getElem?_eq_getElem DA) he aw
    exact(dz e.on (by omega)).2 this⟩
  refine⟨fun h=>(by rw[h]at I8;cases I8),fun i hi=> ?_⟩
  obtain⟨h0,o,bz,_⟩:=mem_ready.1 hi
  have gP:=(Array.getElem?_eq_some_iff.1 bz).1
  rw[Iv (by omega) true false]at h0
  have auN:q≤i:=by
   rcases Nat.lt_or_ge i q with h|h
   ·rw[(dz i gP).2 h]at h0;cases h0
   ·exact h
  have auO:i=q:=by
   rcases Nat.eq_or_lt_of_le auN with h|h
   ·exact h.symm
   ·have:=Qu aoq hi q (W3 (aQ i (by omega) gP) h)
    have:=(dz q DA).1 this
    omega
  subst auO
  have afa:i<l.length:=by omega
  obtain⟨lM,hi',hex⟩:=aH.get (i:=i) (y:=l[i]) (List.getElem?_eq_getElem afa)
  rw[List.getElem?_range gP]at hi'
  simp only[Option.some.injEq]at hi'
  subst hi'
  obtain⟨o',jw,Dz⟩:=hex
  rw[List.drop_eq_getElem_cons afa]at ad
  refine akX c6 ay cg jw Dz ad fun σ' b7 w' rd' β' cE cZ=> ?_
  refine cJ (i+1) (by omega) (by omega) (by simpa using aE) (fun j aF=> ?_) cZ cE
  rw[Rr (by omega)]
  by_cases e:j=i
  ·subst e;simp
  ·rw[if_neg e,dz j aF];omega
theorem Y6 {b:Array Nat} {l:List bW} {i j:Nat} {y:bW} (aF:l[j]? =some y) (eB:j≠i) (bz:ordered b i j=false) {d:Nat} (aD:d∈y.writes):d∈Bs b l i:=by
 refine List.mem_append_left _ ?_
 simp only[List.mem_flatMap,List.mem_filter]
 refine⟨(y,j),⟨?_,?_⟩,aD⟩
 ·rw[List.mem_zipIdx_iff_getElem?];exact aF
 ·simp[eB,bz]
theorem ZY {b:Array Nat} {l:List bW} {i j:Nat} {x y:bW} (hi:l[i]? =some x) (aF:l[j]? =some y) (eB:j≠i) (bz:ordered b i j=false) (aE:x.CH=true) (hm:y.kh=false):Bs b l i≠[]:=by
 unfold Bs
 rw[if_pos]
 ·simp
 ·rw[hi]
  simp only[Option.map_some,Option.getD_some,aE,Bool.true_and,List.any_eq_true,Prod.exists]
  exact⟨y,j,by rw[List.mem_zipIdx_iff_getElem?];exact aF,by simp[eB,bz,hm]⟩
theorem ajX (b:Array Nat) (i j:Nat):ordered b i j=ordered b j i:=by
 unfold ordered;rw[Nat.max_comm,Nat.min_comm]
theorem aor {b:Array Nat} {l:List bW} (lz:Ir b l=true) {i j:Nat} {x y:bW} (hi:l[i]? =some x) (aF:l[j]? =some y) (bl:i<j) (bz:ordered b i j=false):SM x y (Bs b l i) (Bs b l j):=by
 simp only[Ir,List.all_eq_true,Prod.forall]at lz
 have:=lz x i (by rw[List.mem_zipIdx_iff_getElem?];exact hi) y j (by rw[List.mem_zipIdx_iff_getElem?];exact aF)
 simp only[bz,Bool.or_false,Bool.or_eq_true,decide_eq_true_eq]at this
 have h2:Sj x y=true:=by rcases this with h|h; · omega
                         ·exact h
 simp only[Sj,Bool.and_eq_true]at h2
 obtain⟨⟨h1,h2⟩,aq⟩:=h2
 have ct:∀d,x.dst=some d→d∉y.q3:=fun d aD=>by rw[aD]at h1;simpa using h1
 have db:∀d,y.dst=some d→d∉x.q3:=fun d aD=>by rw[aD]at h2;simpa using h2
 by_cases hm:x.kh=true∨y.kh=true
 ·exact .inr ⟨⟨ct,db⟩,hm⟩
 ·have aj:x.kh=false:=by cases e:x.kh with|false=>rfl|true=>exact absurd (.inl e) hm
  have hy:y.kh=false:=by cases e:y.kh with|false=>rfl|true=>exact absurd (.inr e) hm
  have jw:ordered b j i=false:=by rw[ajX];exact bz
  refine .inl ⟨ct,db,fun d aD lu=> ?_,fun aE=>ZY hi aF (by omega) bz aE hy,fun aE=>ZY aF hi (by omega) jw aE aj,fun d aD=>Y6 aF (by omega) bz aD,fun d aD=>Y6 hi (by omega) jw aD⟩
  simp only[aj,hy,Bool.or_eq_true,Bool.false_eq_true,false_or,List.all_eq_true]at aq
  have:=aq d aD
  simp at this
  exact this lu
def tag (b:Array Nat) (l:List bW) (x:bW×Nat):bW×List Nat:=(x.1,Bs b l x.2)
theorem Y7 (c6:ah P aL Γ) {M:Nat} (cg:M≤N) {l:List bW} (aH:lg (fun i lo=>∃o,ops[i]? =some o∧se P M ops o=some lo) (List.range ops.size) l) (c0:EB ops=true)
 {p:Nat} (DB:p≤ops.size) (aQ:∀j,p≤j→j<ops.size→En (Region.before ops) j=true) (lz:Ir (Region.before ops) (l.take p)=true) {K:St→Prop} {Q:Exit→Act→World→Prop}
 (cw:∀a w,jh N aR aL R K a w→Q .normal a w):
 ∀(fuel:Nat) {rem:List (bW×Nat)} {L:Array Bool} {σ:St} {a:Act} {w:World} {rd:Mem} {β:bU},rem.Sublist (l.take p).zipIdx→fuel=rem.length+(ops.size - p)→L.size=ops.size→EM ops L→
  (∀i o,(l.take p)[i]? =some o→((o,i)∈rem↔L.getD i false=false))→(∀i,p≤i→i<ops.size→L.getD i false=false)→
  bd N aR aL R σ a w rd β→di Γ (hc Γ K (l.drop p)) (rem.map (tag (Region.before ops) (l.take p))) σ→wpAny P .any ops Q fuel L a w:=by
 intro fuel
 have hlen:l.length=ops.size:=by rw[←aH.length,List.length_range]
 have O9:(l.take p).length=p:=by rw[List.length_take];omega
 induction fuel with
 |zero=>
  intro rem L σ a w rd β Fe hf aE lx gP fZ ay ad
  have JD:rem=[]:=List.eq_nil_of_length_eq_zero (by omega)
  subst JD
  refine Y5 c6 cg aH c0 aQ cw 0 p (Nat.le_refl _) (by omega) aE (fun i hi=>⟨fun _=>by omega,fun y0=> ?_⟩) ay ad
  have bb:(l.take p)[i]? =some ((l.take p)[i]'(by omega)):=List.getElem?_eq_getElem (by omega)
  cases e:L.getD i false with
  |true=>rfl
  |false=>have:=(gP i _ bb).2 e;cases this
 |succ fuel cJ=>
  intro rem L σ a w rd β Fe hf aE lx gP fZ ay ad
  cases JD:rem with
  |nil=>
   subst JD
   refine Y5 c6 cg aH c0 aQ cw (fuel+1) p (Nat.le_refl _) (by simp at hf;omega) aE (fun i hi=>⟨fun he=> ?_,fun y0=> ?_⟩) ay ad
   ·rcases Nat.lt_or_ge i p with h|h
    ·exact h
    ·rw[fZ i h hi]at he;cases he
   ·have bb:(l.take p)[i]? =some ((l.take p)[i]'(by omega)):=List.getElem?_eq_getElem (by omega)
    cases e:L.getD i false with
    |true=>rfl
    |false=>have:=(gP i _ bb).2 e;cases this
  |cons iz rest=>
   have IE:rem.Pairwise fun a b=>a.2<b.2:=(XS _ 0).sublist Fe
   have Oa:∀{o i},(o,i)∈rem→(l.take p)[i]? =some o:=fun {o i} h=>by
    have:=Fe.subset h
    rwa [List.mem_zipIdx_iff_getElem?]at this
   have DC:iz∈rem:=by rw[JD];simp
   have abH:=Oa (o:=iz.1) (i:=iz.2) DC
   have aze:iz.2<p:=by
    have:=(List.getElem?_eq_some_iff.1 abH).1
    omega
   have afb:L.getD iz.2 false=false:=(gP _ _ abH).1 DC
   have I8:iz.2∈Region.ready .any ops L:=mem_ready.2 ⟨by rw[Iv (by omega) true false];exact afb,ops[iz.2]'(by omega),Array.getElem?_eq_getElem _,fun e he aw=>by
    have bl:=Qv c0 (Array.getElem?_eq_getElem (by omega)) he aw
    have bb:(l.take p)[e.on]? =some ((l.take p)[e.on]'(by omega)):=List.getElem?_eq_getElem (by omega)
    cases dT:L.getD e.on false with
    |true=>rfl
    |false=>
     have hm:=(gP _ _ bb).2 dT
     rw[JD]at hm IE
     rcases List.mem_cons.1 hm with h|h
     ·rw[←h]at bl;simp only at bl;omega
     ·have:=(List.pairwise_cons.1 IE).1 _ h
      simp only at this;omega⟩
   refine⟨fun h=>(by rw[h]at I8;cases I8),fun i hi=> ?_⟩
   obtain⟨h0,o,bz,_⟩:=mem_ready.1 hi
   have abI:=(Array.getElem?_eq_some_iff.1 bz).1
   rw[Iv (by omega) true false]at h0
   have y0:i<p:=by
    rcases Nat.lt_or_ge i p with h|h
    ·exact h
    ·have:=Qu lx hi iz.2 (W3 (aQ i h abI) (by omega))
     rw[afb]at this;cases this
   have bb:(l.take p)[i]? =some ((l.take p)[i]'(by omega)):=List.getElem?_eq_getElem (by omega)
   generalize (l.take p)[i]'(by omega)=lo at bb
   have hm:(lo,i)∈rem:=(gP _ _ bb).2 h0
   obtain⟨xs,r,A6⟩:=List.append_of_mem hm
   rw[A6]at IE
   have yU:∀x∈xs,x.2<i:=fun x aj=>by
    have:=(List.pairwise_append.1 IE).2.2 x aj (lo,i) (by simp)
    exact this
   have yV:∀x∈r,i<x.2:=fun x aj=>by
    have:=(List.pairwise_cons.1 (List.pairwise_append.1 IE).2.1).1 x aj
    exact this
   have auP:l[i]? =some lo:=by
    have afc:=bb
    rw[List.getElem?_take]at afc
    simpa [y0]using afc
   obtain⟨lM,hi',hex⟩:=aH.get auP
   rw[List.getElem?_range abI]at hi'
   simp only[Option.some.injEq]at hi'
   subst hi'
   obtain⟨o',jw,Dz⟩:=hex
   rw[A6,List.map_append,List.map_cons]at ad
   have apZ:=XR (y:=lo) (ny:=Bs (Region.before ops) (l.take p) i) (xs:=xs.map (tag (Region.before ops) (l.take p))) (r:=r.map (tag (Region.before ops) (l.take p))) (fun x aj=>by
    obtain⟨z,bp,rfl⟩:=List.mem_map.1 aj
    have GH:(z.1,z.2)∈rem:=by rw[A6];simp[bp]
    have afd:=Oa GH
    have bl:=yU z bp
    refine aor lz afd bb bl ?_
    cases aw:ordered (Region.before ops) z.2 i with
    |false=>rfl
    |true=>
     unfold ordered at aw
     rw[Nat.max_eq_right (by omega),Nat.min_eq_left (by omega)]at aw
     have:=Qu lx hi z.2 aw
     rw[(gP _ _ afd).1 GH]at this
     cases this) ad
   refine akW c6 ay cg jw Dz apZ fun σ' b7 w' rd' β' cE cZ=> ?_
   rw[←List.map_append]at cE
   refine cJ (rem:=xs++r) ?_ ?_ (by simpa using aE) (akV lx hi) (fun k ok asL=> ?_) (fun k Dt yZ=> ?_) cZ cE
   ·refine List.Sublist.trans ?_ Fe
    rw[A6]
    exact List.Sublist.append (List.Sublist.refl xs) (List.sublist_cons_self _ _)
   ·rw[A6]at hf
    simp only[List.length_append,List.length_cons]at hf⊢
    omega
   ·rw[Rr (by omega)]
    by_cases e:k=i
    ·subst e
     rw[if_pos rfl]
     constructor
     ·intro h
      rcases List.mem_append.1 h with h|h
      ·have:=yU _ h;simp only at this;omega
      ·have:=yV _ h;simp only at this;omega
     ·intro h;cases h
    ·rw[if_neg e,←gP k ok asL,A6]
     simp only[List.mem_append,List.mem_cons,Prod.mk.injEq,e,and_false,false_or]
   ·rw[Rr (by omega),if_neg (by omega)]
    exact fZ k Dt yZ
end
end RV
namespace RV
open Go Go.RowKit
section
variable {N:Nat} {aR:e3} {aL:Mem} {R:bU} {σ σ':St} {a:Act} {w w':World} {rd rd':Mem} {β β':bU} {P:Program} {Γ:Env} {ops:Array Oper}
theorem akY {c:Code} {Q:Exit→Act→World→Prop} (J:Nat→Act→World→Prop) (n:Nat) (h₀:J n a w)
 (round:∀n a w,J n a w→c.wp P (Exit.then (fun b7 w'=>∃m,m<n∧J m b7 w') Q) a w):(Code.loop c).wp P Q a w:=by
 intro b k cs
 have key:∀n a w,J n a w→
  ∃e b7 w',Q e b7 w'∧Arrives P (lone (b.at a (.code c:: .inLoop c::k)) cs w) b k cs e b7 w':=by
  intro n
  induction n using Nat.strongRecOn with
  |_ n cJ=>
   intro a w eP
   obtain⟨e,hN,hO,aO,fy⟩:=round n a w eP b (.inLoop c::k) cs
   cases e with
   |normal=>
    obtain⟨m,bl,SO⟩:=aO
    obtain⟨CZ,C0,C1,CT,CL⟩:=cJ m bl hN hO SO
    exact⟨CZ,C0,C1,CT,.of_steps (Steps.trans fy (.one step_inLoop)) CL⟩
   |exit id=>exact⟨_,hN,hO,aO,.pass (x:= .inLoop c) rfl (fun _ _=> .inl (by simp)) fy⟩
   |goto l=>exact⟨_,hN,hO,aO,.pass (x:= .inLoop c) rfl (fun _ _=> .inl (by simp)) fy⟩
   |ret=>exact⟨_,hN,hO,aO,.pass (x:= .inLoop c) rfl (fun _ _=> .inl (by simp)) fy⟩
   |panic As=>exact⟨_,hN,hO,aO,.pass (x:= .inLoop c) rfl (fun _ _=> .inl (by simp)) fy⟩
   |outgrown=>exact⟨_,hN,hO,aO,.pass (x:= .inLoop c) rfl (fun _ _=> .inl (by simp)) fy⟩
 obtain⟨e,b7,w',aO,fy⟩:=key n a w h₀
 exact⟨e,b7,w',aO,.of_steps (.one step_loop) fy⟩
def Ff (N:Nat) (aR:e3) (aL:Mem) (R:bU) (Q:fi→St→Prop):Exit→Act→World→Prop
 | .normal,a,w=>jh N aR aL R (Q .normal) a w
 | .exit id,a,w=>jh N aR aL R (Q (.exit id)) a w
 | .ret,a,w=>jh N aR aL R (Q .ret) a w
 |_,_,_=>False
theorem QQ {M:Nat} {id:Nat} {drawn:Bool} {lc:a3} (h:er P M (.region id ops drawn)=some lc):
 ∃l,zA P M ops ops.toList=some l∧((drawn=false∧lc= .cC l)∨(drawn=true∧Ir (Region.before ops) (l.take (ops.size - jQ (Region.before ops) ops.size))=true∧EB ops=true∧
  lc= .oW (EJ (Region.before ops) (l.take (ops.size - jQ (Region.before ops) ops.size))) (l.drop (ops.size - jQ (Region.before ops) ops.size)))):=by
 cases drawn with
 |false=>
  obtain⟨l,h1,rfl⟩:=map_some h
  exact⟨l,h1,.inl ⟨rfl,rfl⟩⟩
 |true=>
  simp only[er]at h
  split at h
  ·rename_i l aH
   split at h
   ·rename_i ay
    simp only[Bool.and_eq_true]at ay
    simp only[Option.some.injEq]at h
    exact⟨l,aH,.inr ⟨rfl,ay.1.2,ay.2,h.symm⟩⟩
   ·cases h
  ·cases h
theorem ajY (hm:P.follows .mixedOrders=true) (c6:ah P aL Γ) {M:Nat} (cg:M≤N) {id:Nat} {drawn:Bool} {lc:a3} (ae:er P M (.region id ops drawn)=some lc) {Q:fi→St→Prop}
 (h:bd N aR aL R σ a w rd β) (ad:cb Γ lc Q σ):(Code.region id ops drawn).wp P (Ff N aR aL R Q) a w:=by
 obtain⟨l,aH,⟨rfl,rfl⟩|⟨rfl,lz,c0,rfl⟩⟩:=QQ ae
 ·simp only[cb]at ad
  exact wp_region (Mq c6 cg (fun _ _ h=>h) _ _ (H3 aH) h ad)
 ·simp only[cb]at ad
  refine wp_region_any hm ?_
  have oY:=H3 aH
  have hlen:l.length=ops.size:=by rw[←oY.length,List.length_range]
  obtain⟨β',aD⟩:=bd.pT (EJ (Region.before ops) (l.take (ops.size - jQ (Region.before ops) ops.size))) h
  have O9:(l.take (ops.size - jQ (Region.before ops) ops.size)).length=ops.size - jQ (Region.before ops) ops.size:=by rw[List.length_take];omega
  have fz:∀i,(Array.replicate ops.size false).getD i false=false:=fun i=>by
   rw[Array.getD_eq_getD_getElem?,Array.getElem?_replicate]
   split<;>rfl
  refine Y7 c6 cg oY c0 (Nat.sub_le _ _) (fun j h1 h2=>QG h1 h2) lz (fun _ _ h=>h) ops.size (rem:=(l.take (ops.size - jQ (Region.before ops) ops.size)).zipIdx) (List.Sublist.refl _) ?_ (by simp)
   (fun k o bz cE=>by rw[fz]at cE;cases cE) (fun i o UN=> ?_) (fun i _ _=>fz i) aD.drew (by
    have:EJ (Region.before ops) (l.take (ops.size - jQ (Region.before ops) ops.size))=(l.take (ops.size - jQ (Region.before ops) ops.size)).zipIdx.map (tag (Region.before ops) (l.take (ops.size - jQ (Region.before ops) ops.size))):=rfl
    rw[←this];exact ad)
  ·rw[List.length_zipIdx,O9];omega
  ·rw[List.mem_zipIdx_iff_getElem?]
   simp only[fz,iff_true]
   exact UN
theorem Ie (hm:P.follows .mixedOrders=true) (c6:ah P aL Γ) {M:Nat} (cg:M≤N):∀(c:Code) {lc:a3} {Q:fi→St→Prop} {σ:St} {a:Act} {w:World} {rd:Mem} {β:bU},er P M c=some lc→
 bd N aR aL R σ a w rd β→cb Γ lc Q σ→c.wp P (Ff N aR aL R Q) a w:=by
 intro c
 induction c with
 |skip=>
  intro lc Q σ a w rd β ae h ad
  simp only[er,Option.some.injEq]at ae;subst ae
  exact wp_skip ⟨σ,rd,β,ad,h⟩
 |region id ops drawn=>
  intro lc Q σ a w rd β ae h ad
  exact ajY hm c6 cg ae h ad
 |seq x y mE sQ=>
  intro lc Q σ a w rd β ae h ad
  simp only[er]at ae
  split at ae
  ·rename_i c7 gW aj hy
   simp only[Option.some.injEq]at ae;subst ae
   simp only[cb]at ad
   refine wp_seq (wp_mono (mE aj h ad) fun e b7 w' he=> ?_)
   cases e with
   |normal=>obtain⟨σ',rd',β',h1,h2⟩:=he;exact sQ hy h2 h1
   |exit id=>exact he
   |ret=>exact he
   |_=>exact he.elim
  ·cases ae
 |cond Pa x y mE sQ=>
  intro lc Q σ a w rd β ae h ad
  simp only[er]at ae
  split at ae
  ·rename_i aU c7 gW ay aj hy
   simp only[Option.some.injEq]at ae;subst ae
   simp only[cb]at ad
   have ar:=ez h ay
   split at ad
   ·rename_i t DD
    rw[DD]at ar
    simp only[aT,bj]at ar
    cases t with
    |true=>exact wp_cond_true ar (mE aj h (ad.1 rfl))
    |false=>exact wp_cond_false ar (sQ hy h (ad.2 rfl))
   ·exact ad.elim
  ·cases ae
 |block id x cJ=>
  intro lc Q σ a w rd β ae h ad
  simp only[er]at ae
  obtain⟨c7,aj,rfl⟩:=map_some ae
  simp only[cb]at ad
  refine wp_block (wp_mono (cJ aj h ad) fun e b7 w' he=> ?_)
  cases e with
  |normal=>exact he
  |exit j=>
   obtain⟨σ',rd',β',h1,h2⟩:=he
   simp only at h1
   unfold Exit.inBlock
   simp only
   split at h1
   ·rename_i aF;rw[if_pos aF];exact⟨σ',rd',β',h1,h2⟩
   ·rename_i aF;rw[if_neg aF];exact⟨σ',rd',β',h1,h2⟩
  |ret=>exact he
  |_=>exact he.elim
 |loop x cJ=>
  intro lc Q σ a w rd β ae h ad
  simp only[er]at ae
  obtain⟨c7,aj,rfl⟩:=map_some ae
  simp only[cb,CN]at ad
  obtain⟨I,eT,h0,eP⟩:=ad
  refine akY (fun n a w=>jh N aR aL R (fun s=>I s∧eT s=n) a w) (eT σ) ⟨σ,rd,β,⟨h0,rfl⟩,h⟩ ?_
  rintro n a w ⟨s,rd',β',⟨h1,rfl⟩,h2⟩
  refine wp_mono (cJ aj h2 (eP s h1)) fun e b7 w' he=> ?_
  cases e with
  |normal=>
   obtain⟨ef,gy,kR,⟨bh,bB⟩,c2⟩:=he
   exact⟨eT ef,bB,ef,gy,kR,⟨bh,rfl⟩,c2⟩
  |exit j=>exact he
  |ret=>exact he
  |_=>exact he.elim
 |exit id=>
  intro lc Q σ a w rd β ae h ad
  simp only[er,Option.some.injEq]at ae;subst ae
  exact wp_exit ⟨σ,rd,β,ad,h⟩
 |ret=>
  intro lc Q σ a w rd β ae h ad
  simp only[er,Option.some.injEq]at ae;subst ae
  exact wp_ret ⟨σ,rd,β,ad,h⟩
 |_=>intro lc Q σ a w rd β ae h ad;cases ae
end
end RV
namespace RV
open Go Go.RowKit
section
variable {N:Nat} {aR:e3} {aL:Mem} {R:bU} {σ σ':St} {a:Act} {w w':World} {rd rd':Mem} {β β':bU} {P:Program} {Γ:Env} {ops:Array Oper}
theorem ih.toBelow {aR w:World} (h:ih (fun _=>none) aR w):Below aR.heap.size aR w:=by
 refine⟨h.os,h.tape,h.output,h.size,fun k ad=> ?_⟩
 rcases h.block k ad with e|⟨c,t,cx,c',h1,h2,aq,aK⟩|⟨_,_,_,_,_,_,_,_,aJ,_⟩
 ·exact e
 ·have:c'=c:=by
   apply Array.ext_getElem?
   intro i
   exact aK i (by simp)
  rw[h1,h2,this]
 ·cases aJ
theorem Y8 {ds:List D} {vs:Array Value} (ar:bP rd ds vs.toList) (k:Nat) (t:Nat):
 aT rd β ((uo ds).af t) ((vs++Array.replicate k undef).getD t undef):=by
 have hlen:=AH ar
 simp only[Array.length_toList]at hlen
 simp only[uo]
 cases aD:ds[t]? with
 |some d=>
  obtain⟨v,aB,UO⟩:=Rl ar aD
  simp only[Array.getElem?_toList]at aB
  have ae:=(Array.getElem?_eq_some_iff.1 aB).1
  have:(vs++Array.replicate k undef).getD t undef=v:=by
   rw[Array.getD_eq_getD_getElem?,Array.getElem?_append_left ae,aB];rfl
  rw[this]
  exact pG UO
 |none=>
  have ae:vs.size≤t:=by
   have:=List.getElem?_eq_none_iff.1 aD
   omega
  have:(vs++Array.replicate k undef).getD t undef=undef:=by
   rw[Array.getD_eq_getD_getElem?,Array.getElem?_append_right ae,Array.getElem?_replicate]
   split<;>rfl
  rw[this]
  simp only[aT]
theorem MH {ds:List D} {vs:Array Value} (hm:b3 rd w.cell?) (ar:bP rd ds vs.toList) (k:Nat) (ad:(vs++Array.replicate k undef).size=N):
 bd N w.base rd (fun _=>none) (uo ds) { tmps:=vs++Array.replicate k undef,defers:=[] } w rd (fun _=>none)where
 size:=ad
 defers:=rfl
 cO:=ih.refl _ _
 dH:=fun k o ad=>by cases ad
 dg:=hm
 dR:=b3.refl _
 aL:=fun a v h _=>h
 eR:=fun i r b h=>by cases h
 eX:=fun t=>Y8 ar k t
 box:=fun i r h=>by cases h
 eM:=fun i b h=>by cases h
 eE:=fun i j az h9 _ h=>by cases h
theorem akZ (h:bd N aR aL R σ a w rd β) {r:ResultVar} {l:bo} (ae:Sk P r=some l) {v:ag} (aH:Ju σ l=some v):
 ∃u,(match r with| .tmp t=>pure (a.tmps.getD t undef)| .cell x t=>do loadVar t (←asAddr (a.tmps.getD x undef)):Sem Value).run P w= .ok u w∧aT rd β v u:=by
 cases r with
 |tmp t=>
  simp only[Sk,Option.some.injEq]at ae;subst ae
  simp only[Ju,Option.some.injEq]at aH;subst aH
  exact⟨_,rfl,h.eX t⟩
 |cell x t=>
  obtain⟨P9,aB,rfl⟩:=map_some ae
  obtain⟨n,g⟩:=P9
  simp only[Ju]at aH
  have ar:=h.eX x
  split at aH
  ·rename_i i off aj
   rw[aj]at ar
   simp only[aT]at ar
   obtain⟨rg,hg,hu⟩:=ar
   split at aH
   ·rename_i f e cs aw
    obtain⟨cK,gQ,c0,_⟩:=h.box i rg hg
    rw[aw]at gQ;simp only[Option.some.injEq]at gQ;subst gQ
    have fR:=c0.2
    have same:∀{u:Value},(Instr.loadAt t (.pointer (some (cellAt rg.bL (rg.off+off))))).run P w= .ok u w→(do loadVar t (←asAddr (a.tmps.getD x undef)):Sem Value).run P w= .ok u w:=by
     intro u kr
     rw[hu]
     simpa only[Instr.loadAt,Instr.sureAddr,asAddr,Sem.run_bind,Sem.run_pure,Result.andThen_ok]using kr
    cases g with
    |true=>
     simp only[if_true]at aH
     split at aH
     ·rename_i hle
      simp only[Option.some.injEq]at aH;subst aH
      obtain⟨u,bh,bB,_⟩:=Mj (P:=P) aB ((fR.drop off).take n) (by simp;omega)
      exact⟨u,same bh,bB rfl⟩
     ·cases aH
    |false=>
     simp only[Bool.false_eq_true,if_false]at aH
     have aJ:=Rh aB
     subst aJ
     have bl:=(List.getElem?_eq_some_iff.1 aH).1
     have abJ:(cs.drop off).take 1=[v]:=by
      rw[List.drop_eq_getElem_cons bl]
      rw[List.getElem?_eq_getElem bl]at aH
      simp only[Option.some.injEq]at aH
      simp[aH]
     obtain⟨u,bh,_,c2⟩:=Mj (P:=P) aB ((fR.drop off).take 1) (by rw[abJ];rfl)
     exact⟨u,same bh,c2 rfl v abJ⟩
   ·cases aH
  ·cases aH
theorem H5 {α:Type} {f:α→Sem Value} {us:List Value} :∀(l:List α),lg (fun x u=>(f x).run P w= .ok u w) l us→(l.mapM f).run P w= .ok us w:=by
 intro l h
 induction h with
 |nil=>rfl
 |cons h0 _ cJ=>simp only[List.mapM_cons,Sem.run_bind,h0,Result.andThen_ok,cJ,Sem.run_pure]
theorem Ea (h:bd N aR aL R σ a w rd β):∀{rs:List ResultVar} {ls:List bo} {vs:List ag},zB P rs=some ls→yu σ ls=some vs→
 ∃us,lg (fun(r:ResultVar) u=>(match r with| .tmp t=>pure (a.tmps.getD t undef)| .cell x t=>do loadVar t (←asAddr (a.tmps.getD x undef)):Sem Value).run P w= .ok u w) rs us∧bY rd β vs us
 |[],_,_,ae,aH=>by
  simp only[zB,Option.some.injEq]at ae;subst ae
  simp only[yu,Option.some.injEq]at aH;subst aH
  exact⟨[],.nil,by simp only[bY]⟩
 |r::rs,_,_,ae,aH=>by
  simp only[zB]at ae
  split at ae
  ·rename_i l ls h1 h2
   simp only[Option.some.injEq]at ae;subst ae
   simp only[yu]at aH
   split at aH
   ·rename_i v vs aq aK
    simp only[Option.some.injEq]at aH;subst aH
    obtain⟨u,bh,bB⟩:=akZ (P:=P) h h1 aq
    obtain⟨us,c2,hF⟩:=Ea h h2 aK
    exact⟨u::us,.cons bh c2,by simp only[bY];exact⟨u,us,rfl,bB,hF⟩⟩
   ·cases aH
  ·cases ae
theorem Rs {ds:List D} {us:List Value} (h:bP rd ds us):bj rd (CX ds) (if dT:us.toArray.size=1 then us.toArray[0]else .tuple us.toArray):=by
 match ds,us,h with
 |[],us,h=>simp only[bP]at h;subst h;simp only[CX];simp[bj,bP]
 |[d],us,h=>
  simp only[bP]at h
  obtain⟨v,qh,rfl,h1,rfl⟩:=h
  simpa [CX]using h1
 |d::hQ::ds,us,h=>
  have aH:=AH h
  have:¬us.toArray.size=1:=by simp[aH]
  rw[dif_neg this]
  simp only[CX,bj]
  exact⟨_,rfl,by simpa using h⟩
theorem I9 {fn:Func} {o9:List bo} (fD:zB P fn.results.toList=some o9) {C:br} (bz:C.own=false) {ds:List D} {M:Nat} :jh M w.base rd (fun _=>none) (fun σ=>kJ o9 σ fun d=>d=C.res ds) a w'→
 a.defers=[]∧∃v,(results fn a.tmps).run P w'= .ok v w'∧(∃cR,Ending.returned v= .returned cR∧Below w.heap.size w w'∧Bt C rd w w' (C.res ds) cR):=by
 have Dp:w.base.heap.size=w.heap.size:=rfl
 rintro⟨σ,rd',β,ar,dq⟩
 refine⟨dq.defers,?_⟩
 unfold kJ at ar
 split at ar
 ·rename_i lA aH
  obtain⟨JE,ar⟩:=ar
  split at ar
  ·rename_i uq hq
   obtain⟨us,bh,bB⟩:=Ea dq fD aH
   have uu:=toDs_rep dq (S:=jn β lA) lA us uq hq bB fun i r aP hi ec fC=>⟨i,r,hi,ec,fC⟩
   have hle:b3 (plus w' (jn β lA) rd') (ke w w' rd):=fun aP v e=>by
    unfold ke
    split
    ·rename_i bl
     by_cases aE:jn β lA aP
     ·exfalso
      obtain⟨i,r,hi,ec,a6⟩:=aE
      obtain⟨b,aj,_,_,gA,_⟩:=dq.box i r ec
      have:=(gA (AW lA JE i b hi aj)).1
      have:=a6.1
      omega
     ·rw[x9 aE]at e
      exact dq.aL aP v e bl
    ·exact yd dq.dg aP v e
   refine⟨_,?_,_,rfl,dq.cO.toBelow,fun _=>ar▸Rs (bP.mono hle _ _ uu),fun ay=>by rw[bz]at ay;cases ay⟩
   have vl:=H5 (P:=P) (w:=w') fn.results.toList bh
   unfold results
   rw[Array.mapM_eq_mapM_toList]
   simp only[Sem.run_bind,Sem.run_map]
   exact congrArg (fun r:Result (List Value)=>(r.andThen fun a w'=>Result.ok a.toArray w').andThen fun(a:Array Value) w'=>Sem.run P (pure (if h:a.size=1 then a[0]else Value.tuple a)) w') vl
  ·exact ar.elim
 ·exact ar.elim
theorem arN (hm:P.follows .mixedOrders=true) {B:Mem} (c6:ah P B Γ) {f:Nat} {fn:Func} (ga:P.funcs[f]? =some fn) (vN:(fn.name== "runtime.NumGoroutine")=false) {lc:a3} {rs:List bo} (hf:qY P f=some (lc,rs)) {C:br}
 (h:∀ds,C.pre ds→bK Γ lc rs ds fun d=>d=C.res ds) (bz:C.own=false:=by rfl):l8 P B f C:=by
 simp only[qY,ga]at hf
 split at hf
 ·rename_i c ay
  split at hf
  ·rename_i l o9 ae fD
   simp only[Option.some.injEq,Prod.mk.injEq]at hf
   obtain⟨rfl,rfl⟩:=hf
   refine⟨⟨fn,ga,vN,by rw[ay];rfl⟩,fun ds aQ w rd vs ai l9 fz=> ?_⟩
   have ad:=h ds aQ
   unfold bK at ad
   refine calls_of_wp ga ay ?_
   have Dp:w.base.heap.size=w.heap.size:=rfl
   have vb:=MH (N:=(vs++Array.replicate (fn.ntmps - vs.size) undef).size) l9 fz (fn.ntmps - vs.size) rfl
   refine wp_mono (Ie hm (c6.mono ai) (M:=fn.ntmps) (by simp;omega) c ae vb ad) ?_
   intro e a w' he
   have done:=fun h=>I9 (a:=a) (w':=w') fD bz (ds:=ds) (M:=(vs++Array.replicate (fn.ntmps - vs.size) undef).size) (w:=w) (rd:=rd) h
   cases e with
   |normal=>exact done he
   |ret=>exact done he
   |exit id=>obtain⟨_,_,_,h1,_⟩:=he;exact h1.elim
   |_=>exact he.elim
  ·cases hf
 ·cases hf
theorem ap0 (hm:P.follows .mixedOrders=true) {B:Mem} (c6:ah P B Γ) {f:Nat} {fn:Func} (ga:P.funcs[f]? =some fn) (vN:(fn.name== "runtime.NumGoroutine")=false) {lc:a3} {rs:List bo} (hf:qY P f=some (lc,rs)) {C:br}
 (h:∀ds,C.pre ds→Fa Γ lc rs ds fun d=>d=C.res ds) (bz:C.own=true:=by rfl):l8 P B f C:=by
 simp only[qY,ga]at hf
 split at hf
 ·rename_i c ay
  split at hf
  ·rename_i l o9 ae fD
   simp only[Option.some.injEq,Prod.mk.injEq]at hf
   obtain⟨rfl,rfl⟩:=hf
   refine⟨⟨fn,ga,vN,by rw[ay];rfl⟩,fun ds aQ w rd vs ai l9 fz=> ?_⟩
   have ad:=h ds aQ
   unfold Fa at ad
   refine calls_of_wp ga ay ?_
   have Dp:w.base.heap.size=w.heap.size:=rfl
   have vb:=MH (N:=(vs++Array.replicate (fn.ntmps - vs.size) undef).size) l9 fz (fn.ntmps - vs.size) rfl
   refine wp_mono (Ie hm (c6.mono ai) (M:=fn.ntmps) (by simp;omega) c ae vb ad) ?_
   intro e a w' he
   have done:jh (vs++Array.replicate (fn.ntmps - vs.size) undef).size w.base rd (fun _=>none) (fun σ=>Jv o9 σ fun d=>d=C.res ds) a w'→
    a.defers=[]∧∃v,(results fn a.tmps).run P w'= .ok v w'∧(∃cR,Ending.returned v= .returned cR∧Below w.heap.size w w'∧Bt C rd w w' (C.res ds) cR):=by
    rintro⟨σ,rd',β,ar,dq⟩
    refine⟨dq.defers,?_⟩
    unfold Jv at ar
    split at ar
    ·rename_i t
     have aH:yu σ [.tmp t]=some [σ.af t]:=rfl
     obtain⟨us,bh,bB⟩:=Ea dq fD aH
     simp only[bY]at bB
     obtain⟨v,qh,rfl,aB,rfl⟩:=bB
     have main:∀{i lo n:Nat} {c:BC} {d:D},σ.af t= .own i lo n→lo=0→σ.aA i=some ⟨false,false,c⟩→jr d=some (c,n)→d=C.res ds→RN w w' (C.res ds) v:=by
      intro i lo n c d aN ur aX h6 aD
      subst ur
      rw[aN]at aB
      simp only[aT]at aB
      obtain⟨A,cap,rfl,aJ,hA⟩:=aB
      refine⟨c,n,A,cap,by rw[←aD];exact h6,rfl,aJ,?_⟩
      rcases hA with h0|⟨r,hi,hA,tM⟩
      ·exact .inl h0
      ·obtain⟨b,aw,gO,sJ,gA,_⟩:=dq.box i r hi
       rw[aX]at aw
       simp only[Option.some.injEq]at aw
       subst aw
       obtain⟨ct,db⟩:=gA rfl
       refine .inr ⟨r,db,ct,sJ.cells (XP h6),?_,by rw[hA,Nat.zero_mul,Nat.add_zero],by have:=tM db;omega⟩
       cases d with
       |ints k xs=>
        simp only[jr,Option.some.injEq,Prod.mk.injEq]at h6
        obtain⟨rfl,rfl⟩:=h6
        exact gO
       |flts xs=>
        simp only[jr,Option.some.injEq,Prod.mk.injEq]at h6
        obtain⟨rfl,rfl⟩:=h6
        exact gO
       |_=>simp[jr]at h6
     have oU:RN w w' (C.res ds) v:=by
      split at ar
      ·rename_i i lo n aN
       split at ar
       ·rename_i k xs aX
        exact main aN ar.1 aX (by simp only[jr,ar.2.1]) ar.2.2
       ·rename_i xs aX
        exact main aN ar.1 aX (by simp only[jr,ar.2.1]) ar.2.2
       ·exact ar.elim
      ·exact ar.elim
     refine⟨_,?_,v,rfl,dq.cO.toBelow,(show Bt C rd w w' (C.res ds) v from ⟨fun ay=>(by rw[bz]at ay;cases ay),fun _=>oU⟩)⟩
     have vl:=H5 (P:=P) (w:=w') fn.results.toList bh
     unfold results
     rw[Array.mapM_eq_mapM_toList]
     simp only[Sem.run_bind,Sem.run_map]
     exact congrArg (fun r:Result (List Value)=>(r.andThen fun a w'=>Result.ok a.toArray w').andThen fun(a:Array Value) w'=>Sem.run P (pure (if h:a.size=1 then a[0]else Value.tuple a)) w') vl
    ·exact ar.elim
   cases e with
   |normal=>exact done he
   |ret=>exact done he
   |exit id=>obtain⟨_,_,_,h1,_⟩:=he;exact h1.elim
   |_=>exact he.elim
  ·cases hf
 ·cases hf
end
end RV
namespace RV
open Go Go.RowKit
section
variable {N:Nat} {aR:e3} {aL:Mem} {R E:bU} {σ σ':St} {a:Act} {w w':World} {rd rd':Mem} {β β':bU} {P:Program} {Γ:Env} {ops:Array Oper}
theorem alU {bm:List ag} {vs:Array Value} (ar:bY rd β bm vs.toList) (k:Nat) (t:Nat) (cs:List BC):
 aT rd β ((yC bm cs).af t) ((vs++Array.replicate k undef).getD t undef):=by
 have hlen:=AF ar
 simp only[Array.length_toList]at hlen
 simp only[yC]
 cases aD:bm[t]? with
 |some d=>
  obtain⟨v,aB,UO⟩:=QM ar aD
  simp only[Array.getElem?_toList]at aB
  have ae:=(Array.getElem?_eq_some_iff.1 aB).1
  have:(vs++Array.replicate k undef).getD t undef=v:=by
   rw[Array.getD_eq_getD_getElem?,Array.getElem?_append_left ae,aB];rfl
  rw[this]
  exact UO
 |none=>
  have ae:vs.size≤t:=by
   have:=List.getElem?_eq_none_iff.1 aD
   omega
  have:(vs++Array.replicate k undef).getD t undef=undef:=by
   rw[Array.getD_eq_getD_getElem?,Array.getElem?_append_right ae,Array.getElem?_replicate]
   split<;>rfl
  rw[this]
  simp only[aT]
theorem Xv {m:Nat} :∀{n k:Nat} {cs:List BC},yo σ m k n=some cs→cs.length=n∧∀(j:Nat) (c:BC),cs[j]? =some c→c.tidy (Be m)=true∧∃f,σ.aA (bF+k+j)=some ⟨f,true,c⟩
 |0,k,cs,h=>by simp only[yo,Option.some.injEq]at h;subst h;simp
 |n+1,k,cs,h=>by
  simp only[yo]at h
  split at h
  ·rename_i f c r aw ar
   split at h
   ·rename_i aQ
    simp only[Option.some.injEq]at h;subst h
    obtain⟨h1,h2⟩:=Xv ar
    refine⟨by simp[h1],fun j c' aF=> ?_⟩
    cases j with
    |zero=>simp only[List.getElem?_cons_zero,Option.some.injEq]at aF;subst aF;exact⟨aQ,f,aw⟩
    |succ j=>
     have:=h2 j c' (by simpa using aF)
     rw[show bF+(k+1)+j=bF+k+(j+1)by omega]at this
     exact this
   ·cases h
  ·cases h
theorem ak0 {p:Nat→Bool} (hg:∀i,p i=true→β' i=β i) {r:cY} {c:BC} (ae:c.tidy p=true) (h:e7 w rd β r c):e7 w rd β' r c:=by
 cases c with
 |cells cs=>
  have key:∀(l:List ag) (o:Nat),ag.ij p l=true→c5 w rd β r.bL o l→c5 w rd β' r.bL o l:=by
   intro l
   induction l with
   |nil=>intro o _ _;trivial
   |cons v vs cJ=>
    intro o ae H
    obtain⟨⟨u,e,H1⟩,fb⟩:=H
    simp only[ag.ij,Bool.and_eq_true]at ae
    exact⟨⟨u,e,aT.congr v u (fun j aF=>hg j (YX v ae.1 j aF)) H1⟩,cJ (o+1) ae.2 fb⟩
  exact⟨h.1,key cs _ ae h.2⟩
 |ints k xs=>exact h
 |flts xs=>exact h
 |recs sz xs=>exact h
 |map n es=>exact h
theorem aos {bm:List ag} {cs:List BC} {C:gu} {fn:Func} {o9:List bo} {regs:List (Option cY)} {ot:Nat→Option Obj} (fD:zB P fn.results.toList=some o9) (uv:regs.length=cs.length) (l9:b3 rd w.cell?)
 (gP:∀(k:Nat) (c:BC) (r:cY),cs[k]? =some c→regs[k]? =some (some r)→e7 w rd (hh regs) r c∧dZ w r c∧r.whole=false∧∀aP,r.has aP→rd aP=none)
 (dq:bd N ⟨w,ot⟩ rd (hh regs) σ a w' rd' β) (ar:kJ o9 σ fun d=>match yo σ cs.length 0 cs.length with
  |some cs'=>d=C.res bm cs∧cs'=C.out bm cs
  |none=>False):
 ∃v,(results fn a.tmps).run P w'= .ok v w'∧(∃cR rd',Ending.returned v= .returned cR∧ih (hh regs) w w'∧b3 rd rd'∧b3 rd' w'.cell?∧(∀aP v,rd' aP=some v→aP.block<w.heap.size→rd aP=some v)∧bj rd' (C.res bm cs) cR∧
  (∀(k:Nat) (c:BC) (r:cY),(C.out bm cs)[k]? =some c→regs[k]? =some (some r)→e7 w' rd' (hh regs) r c∧dZ w' r c)∧(∀(k:Nat) (c:BC),(C.out bm cs)[k]? =some c→regs[k]? =some none→c.isNil=true)):=by
 have Dp:({ toWorld:=w,dH:=ot } :e3).heap.size=w.heap.size:=rfl
 unfold kJ at ar
 split at ar
 ·rename_i lA aH
  obtain⟨JE,ar⟩:=ar
  split at ar
  ·rename_i uq hq
   split at ar
   ·rename_i cs' asM
    obtain⟨bO,rfl⟩:=ar
    obtain⟨jF,da⟩:=Xv asM
    obtain⟨us,bh,bB⟩:=Ea dq fD aH
    have uu:=toDs_rep dq (S:=jn β lA) lA us uq hq bB fun i r aP hi ec fC=>⟨i,r,hi,ec,fC⟩
    have abb:b3 rd w'.cell? :=fun aP v e=>by
     have bl:=AP (l9 aP v e)
     have fr:=l9 aP v e
     rcases dq.cO.block aP.block bl with e'|⟨c,t,cx,c',h1,h2,aq,aK⟩|⟨es,q,es',qy,h1,_⟩
     ·rw[th e'];exact fr
     rotate_left
     ·have h1:w.heap[aP.block]? =some (.map es q):=h1
      simp only[World.cell?,h1]at fr
      cases fr
     ·have h1:w.heap[aP.block]? =some (.cells c t cx):=h1
      simp only[World.cell?,h1]at fr
      simp only[World.cell?,h2]
      split at fr
      ·cases fr
      ·rename_i z7
       rw[if_neg z7]
       rw[aK aP.off fun j r aF ec=> ?_]
       ·exact fr
       ·obtain⟨k,rfl,ad⟩:=MQ aF
        have bl:k<cs.length:=by rw[←uv];exact(List.getElem?_eq_some_iff.1 ad).1
        have fC:r.has aP:=ec
        have:=(gP k _ r (List.getElem?_eq_getElem bl) ad).2.2.2 aP fC
        rw[e]at this;cases this
    let m:Mem:=fun aP=>match rd aP with|some v=>some v|none=>plus w' (jn β lA) rd' aP
    have iL:b3 rd m:=fun aP v e=>by simp[m,e]
    have DE:b3 m w'.cell? :=fun aP v e=>by
     simp only[m]at e
     split at e
     ·rename_i u hu;rw[←e];exact abb aP u hu
     ·exact yd dq.dg aP v e
    have BV:b3 (plus w' (jn β lA) rd') m:=fun aP v e=>by
     simp only[m]
     split
     ·rename_i u hu
      have h1:=abb aP u hu
      have h2:=yd dq.dg aP v e
      rw[h1]at h2;exact h2
     ·exact e
    have afe:∀aP v,m aP=some v→aP.block<w.heap.size→rd aP=some v:=fun aP v e bl=>by
     simp only[m]at e
     split at e
     ·rename_i u hu;rw[hu];exact e
     ·by_cases aE:jn β lA aP
      ·exfalso
       obtain⟨i,r,hi,ec,a6⟩:=aE
       obtain⟨b,aj,_,_,gA,_⟩:=dq.box i r ec
       have:=(gA (AW lA JE i b hi aj)).1
       have:=a6.1
       omega
      ·rw[x9 aE]at e
       exact dq.aL aP v e bl
    refine⟨_,?_,_,m,rfl,dq.cO,iL,DE,afe,bO▸Rs (bP.mono BV _ _ uu),fun k c r cZ lf=> ?_,fun k c cZ lf=> ?_⟩
    ·have vl:=H5 (P:=P) (w:=w') fn.results.toList bh
     unfold results
     rw[Array.mapM_eq_mapM_toList]
     simp only[Sem.run_bind,Sem.run_map]
     exact congrArg (fun r:Result (List Value)=>(r.andThen fun a w'=>Result.ok a.toArray w').andThen fun(a:Array Value) w'=>Sem.run P (pure (if h:a.size=1 then a[0]else Value.tuple a)) w') vl
    ·obtain⟨aff,P6,aw⟩:=da k c cZ
     rw[Nat.add_zero]at aw
     have NT:=I6 lf
     cases hg:β (bF+k)with
     |none=>
      have:=(dq.eM _ _ aw hg).1 rfl
      rw[NT]at this;cases this
     |some bA=>
      obtain⟨bM,fl,abK,asN,_,eG⟩:=dq.box _ bA hg
      rw[aw]at fl;simp only[Option.some.injEq]at fl;subst fl
      have:=(eG rfl).1
      rw[NT]at this
      simp only[Option.some.injEq]at this
      subst this
      refine⟨?_,asN⟩
      have CS:∀i,Be cs.length i=true→hh regs i=β i:=fun i hi=>by
       simp only[Be,Bool.and_eq_true,decide_eq_true_eq]at hi
       have bl:i - bF<(C.out bm cs).length:=by omega
       obtain⟨_,f2,jX⟩:=da (i - bF) _ (List.getElem?_eq_getElem bl)
       rw[show bF+0+(i - bF)=i by omega]at jX
       cases abL:β i with
       |none=>exact(dq.eM _ _ jX abL).1 rfl
       |some bX=>
        obtain⟨aW,Ta,_,_,_,asO⟩:=dq.box _ bX abL
        rw[jX]at Ta;simp only[Option.some.injEq]at Ta;subst Ta
        exact(asO rfl).1
      refine(ak0 CS aff abK).mono (b3.trans (oM _ _ _) BV) (fun _ _ _=>rfl) (fun _ _ v _ u H=>aT.mono (b3.trans (oM _ _ _) BV) v u H) (fun _=>rfl)
    ·obtain⟨aff,P6,aw⟩:=da k c cZ
     rw[Nat.add_zero]at aw
     have NT:=I6 lf
     cases hg:β (bF+k)with
     |none=>exact(dq.eM _ _ aw hg).2
     |some bA=>
      obtain⟨bM,fl,abK,_,_,eG⟩:=dq.box _ bA hg
      rw[aw]at fl;simp only[Option.some.injEq]at fl;subst fl
      have:=(eG rfl).1
      rw[NT]at this;cases this
   ·exact ar.elim
  ·exact ar.elim
 ·exact ar.elim
theorem ak1 {bm:List ag} {cs:List BC} {regs:List (Option cY)} {vs:Array Value} (uv:regs.length=cs.length) (l9:b3 rd w.cell?) (fz:bY rd (hh regs) bm vs.toList)
 (gP:∀(k:Nat) (c:BC) (r:cY),cs[k]? =some c→regs[k]? =some (some r)→e7 w rd (hh regs) r c∧dZ w r c∧r.whole=false∧∀aP,r.has aP→rd aP=none)
 (JC:∀(k:Nat) (c:BC),cs[k]? =some c→regs[k]? =some none→c.isNil=true)
 (Tb:∀j k h9 lK,j≠k→hh regs j=some h9→hh regs k=some lK→∀aP,h9.has aP→¬lK.has aP) (m:Nat):
 bd (vs++Array.replicate m undef).size ⟨w,fun _=>none⟩ rd (hh regs) (yC bm cs) { tmps:=vs++Array.replicate m undef,defers:=[] } w rd (hh regs):= {
 size:=rfl
 defers:=rfl
 cO:=ih.refl _ _
 dH:=fun k o ad=>by cases ad
 dg:=l9
 dR:=b3.refl _
 aL:=fun a v h _=>h
 eR:=fun i r b hi aw bp aP fC=>by
  obtain⟨k,rfl,ad⟩:=MQ hi
  have bl:k<cs.length:=by rw[←uv];exact(List.getElem?_eq_some_iff.1 ad).1
  exact(gP k _ r (List.getElem?_eq_getElem bl) ad).2.2.2 aP fC
 eX:=fun t=>alU fz _ t cs
 box:=fun i r hi=>by
  obtain⟨k,rfl,ad⟩:=MQ hi
  have bl:k<cs.length:=by rw[←uv];exact(List.getElem?_eq_some_iff.1 ad).1
  obtain⟨h1,h2,aq,aK⟩:=gP k _ r (List.getElem?_eq_getElem bl) ad
  refine⟨⟨false,true,cs[k]⟩,?_,h1,h2,(fun e=>by cases e),fun _=>⟨hi,aq⟩⟩
  simp only[yC]
  rw[if_pos (by omega),show bF+k - bF=k by omega,List.getElem?_eq_getElem bl]
  rfl
 eM:=fun i b aw hi=>by
  simp only[yC]at aw
  split at aw
  ·rename_i hle
   cases cZ:cs[i - bF]? with
   |none=>rw[cZ]at aw;cases aw
   |some c'=>
    rw[cZ]at aw
    simp only[Option.map_some,Option.some.injEq]at aw
    subst aw
    have bl:i - bF<regs.length:=by rw[uv];exact(List.getElem?_eq_some_iff.1 cZ).1
    have bb:regs[i - bF]? =some none:=by
     rw[List.getElem?_eq_getElem bl]
     cases e:regs[i - bF]with
     |none=>rfl
     |some r=>
      have:=I6 (regs:=regs) (k:=i - bF) (x:=some r) (by rw[List.getElem?_eq_getElem bl,e])
      rw[show bF+(i - bF)=i by omega,hi]at this
      cases this
    exact⟨fun _=>hi,JC _ c' cZ bb⟩
  ·cases aw
 eE:=Tb }
theorem ap1 (hm:P.follows .mixedOrders=true) {B:Mem} (c6:ah P B Γ) {f:Nat} {fn:Func} (ga:P.funcs[f]? =some fn) (vN:(fn.name== "runtime.NumGoroutine")=false) {lc:a3} {rs:List bo} (hf:qY P f=some (lc,rs)) {C:gu}
 (h:∀bm cs,C.pre bm cs→l7 Γ lc rs bm cs fun d cs'=>d=C.res bm cs∧cs'=C.out bm cs):O3 P B f C:=by
 simp only[qY,ga]at hf
 split at hf
 ·rename_i c ay
  split at hf
  ·rename_i l o9 ae fD
   simp only[Option.some.injEq,Prod.mk.injEq]at hf
   obtain⟨rfl,rfl⟩:=hf
   refine⟨⟨fn,ga,vN,by rw[ay];rfl⟩,fun bm cs aQ w rd regs vs uv ai l9 fz gP JC Tb=> ?_⟩
   have ad:=h bm cs aQ
   unfold l7 at ad
   refine calls_of_wp ga ay ?_
   have Dp:w.base.heap.size=w.heap.size:=rfl
   have vb:=ak1 uv l9 fz gP JC Tb (fn.ntmps - vs.size)
   refine wp_mono (Ie hm (c6.mono ai) (M:=fn.ntmps) (by simp;omega) c ae vb ad) ?_
   intro e a w' he
   have done:jh (vs++Array.replicate (fn.ntmps - vs.size) undef).size w.base rd (hh regs) (fun σ=>kJ o9 σ fun d=>match yo σ cs.length 0 cs.length with
    |some cs'=>d=C.res bm cs∧cs'=C.out bm cs
    |none=>False) a w'→
    a.defers=[]∧∃v,(results fn a.tmps).run P w'= .ok v w'∧(∃cR rd',Ending.returned v= .returned cR∧ih (hh regs) w w'∧b3 rd rd'∧b3 rd' w'.cell?∧(∀aP v,rd' aP=some v→aP.block<w.heap.size→rd aP=some v)∧bj rd' (C.res bm cs) cR∧
      (∀(k:Nat) (c:BC) (r:cY),(C.out bm cs)[k]? =some c→regs[k]? =some (some r)→e7 w' rd' (hh regs) r c∧dZ w' r c)∧(∀(k:Nat) (c:BC),(C.out bm cs)[k]? =some c→regs[k]? =some none→c.isNil=true)):=by
    rintro⟨σ,rd',β,ar,dq⟩
    exact⟨dq.defers,aos fD uv l9 gP dq ar⟩
   cases e with
   |normal=>exact done he
   |ret=>exact done he
   |exit id=>obtain⟨_,_,_,h1,_⟩:=he;exact h1.elim
   |_=>exact he.elim
  ·cases hf
 ·cases hf
end
end RV
namespace RV
open Go
section
variable {Γ:Env} {σ:St}
theorem ak2 {C:gu} {dst:Option Nat} {K fe:St→Prop} (b9:∀s,K s→fe s) {vs:List ag} (h:sl C dst σ K vs):sl C dst σ fe vs:=by
 unfold sl yn at*
 split at h
 ·exact⟨h.1,h.2.1,h.2.2.1,b9 _ h.2.2.2⟩
 ·exact h
theorem ak3 {C:br} {dst:Option Nat} {K fe:St→Prop} (b9:∀s,K s→fe s) {vs:List ag} (h:va C dst σ K vs):va C dst σ fe vs:=by
 unfold va at*
 split at h
 ·refine⟨h.1,?_⟩
  have h2:=h.2
  by_cases bz:C.own=true
  ·rw[if_pos bz]at h2⊢
   split at h2
   ·exact b9 _ h2
   ·exact h2
  ·rw[if_neg bz]at h2⊢
   split at h2
   ·rename_i ay;rw[if_pos ay];exact b9 _ h2
   ·rename_i ay;rw[if_neg ay];exact⟨h2.1,b9 _ h2.2⟩
 ·exact h
theorem Mr {dst:Option Nat} {K fe:St→Prop} (b9:∀s,K s→fe s) {f:Nat} {vs:List ag} (h:pS Γ dst σ K f vs):pS Γ dst σ fe f vs:=by
 unfold pS at*
 split at h
 ·exact ak2 b9 h
 ·exact ak3 b9 h
 ·exact h
theorem MW {dst:Option Nat} {K fe:St→Prop} (b9:∀s,K s→fe s) {o:bx} (h:cG Γ dst σ K o):cG Γ dst σ fe o:=by
 cases o with
 |alloc z=>simp only[cG]at*;cases dst with
  |none=>exact h
  |some i=>exact b9 _ h
 |nil z=>simp only[cG]at*;cases dst with
  |none=>exact h
  |some i=>exact b9 _ h
 |box x=>simp only[cG]at*;cases dst with
  |none=>exact h
  |some i=>exact⟨h.1,h.2.1,b9 _ h.2.2⟩
 |rJ ek z n=>
  simp only[cG]at*
  split at h
  ·split at h
   ·exact⟨h.1,h.2.1,b9 _ h.2.2⟩
   ·exact h
  ·exact h.elim
 |store n x y=>
  simp only[cG]at*
  split at h
  ·split at h
   ·refine⟨h.1,h.2.1,?_⟩
    have aq:=h.2.2
    split at aq
    ·exact b9 _ aq
    ·exact aq.elim
   ·exact h.elim
  ·split at h
   ·refine⟨h.1,h.2.1,?_⟩
    have aq:=h.2.2
    split at aq
    ·exact b9 _ aq
    ·exact aq.elim
   ·exact h.elim
  ·exact h.elim
 |app ek x y=>
  simp only[cG]at*
  split at h
  ·split at h
   ·split at h
    ·exact⟨h.1,h.2.1,h.2.2.1,h.2.2.2.1,b9 _ h.2.2.2.2⟩
    ·exact h
   ·exact h.elim
  ·exact h.elim
 |copy ek x y=>
  simp only[cG]at*
  split at h
  ·split at h
   ·split at h
    ·exact⟨h.1,b9 _ h.2⟩
    ·exact h
   ·exact h.elim
  ·exact h.elim
 |Bc x=>
  simp only[cG]at*
  split at h
  ·exact⟨h.1,fun b aw=>b9 _ (h.2 b aw)⟩
  ·exact h
 |call f bm=>exact Mr b9 h
 |hJ x bm=>
  simp only[cG]at*
  split at h
  ·exact Mr b9 h
  ·exact Mr b9 h
  ·exact h.elim
 |sj x=>
  simp only[cG]at*
  split at h
  ·exact fun y hy=>b9 _ (h y hy)
  ·exact h.elim
 |q0 n=>simp only[cG]at*;cases dst with
  |none=>exact h
  |some i=>exact b9 _ h
 |yk n=>simp only[cG]at*;cases dst with
  |none=>exact h
  |some i=>exact b9 _ h
 |yt n m k x=>
  simp only[cG]at*
  split at h
  ·split at h
   ·exact⟨h.1,h.2.1,h.2.2.1,b9 _ h.2.2.2⟩
   ·exact h.elim
  ·exact h.elim
 |sq kQ x bm=>
  simp only[cG]at*
  split at h
  ·split at h
   ·split at h
    ·exact Mr b9 h
    ·exact h.elim
   ·exact h.elim
  ·exact h.elim
 |_=>
  simp only[cG]at h⊢
  exact(Rq Γ σ _).mono (fun v=>K (σ.put dst v)) (fun v=>fe (σ.put dst v)) (fun v aB=>b9 _ aB) h
theorem Ma {g:Option (Nat×Bool)} {y n eY kZ:Prop} (hy:y→eY) (aJ:n→kZ) (h:guarded σ g y n):guarded σ g eY kZ:=by
 rw[AG]at*
 exact h.imp (fun h=>⟨h.1,hy h.2⟩) (fun h=>⟨h.1,aJ h.2⟩)
theorem Ik {K fe:St→Prop} (b9:∀s,K s→fe s):∀{os:List bW} {σ:St},hc Γ K os σ→hc Γ fe os σ
 |[],_,h=>b9 _ h
 |o::r,σ,h=>by
  simp only[hc]at*
  exact Ma (MW fun s aE=>Ik b9 aE) (Ik b9) h
theorem Cv {K fe:St→Prop} (b9:∀s,K s→fe s):∀{os:List (bW×List Nat)} {σ:St},di Γ K os σ→di Γ fe os σ
 |[],_,h=>b9 _ h
 |(o,cl)::r,σ,h=>by
  rcases MV (Γ:=Γ) o cl with p|⟨f,bm,C,ct,db,fc⟩
  ·rw[tl _ _ _ p]at*
   obtain⟨cu,v,h1,h2⟩:=h
   exact⟨cu,v,h1,Cv b9 h2⟩
  ·simp only[di]at h⊢
   rw[AG]at h⊢
   rcases h with ⟨bh,bB⟩|⟨bh,bB⟩
   ·refine .inl ⟨bh,?_⟩
    rw[ID ct db fc]at bB⊢
    obtain⟨s,_,s2,qA⟩:=MU bB
    exact qA none .dB (fun t e=>by cases e) _ (Cv b9 s2)
   ·exact .inr ⟨bh,Cv b9 bB⟩
theorem kb:∀(c:a3) {Q Q':fi→St→Prop} {σ:St},(∀e s,Q e s→Q' e s)→cb Γ c Q σ→cb Γ c Q' σ
 | .skip,_,_,_,aO,h=>aO _ _ h
 | .cC ops,_,_,_,aO,h=>Ik (aO _) h
 | .oW pre yS,_,_,_,aO,h=>Cv (fun _=>Ik (aO _)) h
 | .seq a b,_,_,_,aO,h=>by
   simp only[cb]at*
   refine kb a (fun e s aE=> ?_) h
   cases e with
   |normal=>exact kb b aO aE
   |exit j=>exact aO _ _ aE
   |ret=>exact aO _ _ aE
 | .cond c a b,_,_,σ,aO,h=>by
   simp only[cb]at*
   split at h
   ·exact⟨fun e=>kb a aO (h.1 e),fun e=>kb b aO (h.2 e)⟩
   ·exact h.elim
 | .block id a,_,_,_,aO,h=>by
   simp only[cb]at*
   refine kb a (fun e s aE=> ?_) h
   cases e with
   |normal=>exact aO _ _ aE
   |exit j=>
    simp only at*
    split at aE
    ·rename_i aF;rw[if_pos aF];exact aO _ _ aE
    ·rename_i aF;rw[if_neg aF];exact aO _ _ aE
   |ret=>exact aO _ _ aE
 | .loop a,_,_,_,aO,h=>by
   simp only[cb,CN]at*
   obtain⟨I,eT,h0,eP⟩:=h
   refine⟨I,eT,h0,fun s aE=>kb a (fun e ef lB=> ?_) (eP s aE)⟩
   cases e with
   |normal=>exact lB
   |exit j=>exact aO _ _ lB
   |ret=>exact aO _ _ lB
 | .exit id,_,_,_,aO,h=>aO _ _ h
 | .ret,_,_,_,aO,h=>aO _ _ h
def a3.cut (a b:a3):a3:= .seq a b
theorem cB {a b:a3} {Q:fi→St→Prop} (P:St→Prop) (a6:cb Γ a (fun e s=>match e with| .normal=>P s|e=>Q e s) σ) (aw:∀s,P s→cb Γ b Q s):cb Γ (.cut a b) Q σ:=by
 show cb Γ (.seq a b) Q σ
 simp only[cb]
 refine kb a (fun e s aE=> ?_) a6
 cases e with
 |normal=>exact aw s aE
 |exit j=>exact aE
 |ret=>exact aE
theorem Rt {a:a3} {id:Nat} {Q:fi→St→Prop} (I:St→Prop) (eT:St→Nat) (h0:I σ)
 (eP:∀s,I s→cb Γ a (fun e ef=>match e with| .normal=>I ef∧eT ef<eT s| .exit j=>if j=id then Q .normal ef else Q (.exit j) ef| .ret=>Q .ret ef) s):cb Γ (.block id (.loop a)) Q σ:=by
 simp only[cb,CN]
 refine⟨I,eT,h0,fun s aE=>kb a (fun e ef lB=> ?_) (eP s aE)⟩
 cases e<;>exact lB
theorem eV {a:a3} {Q:fi→St→Prop} (I:St→Prop) (eT:St→Nat) (h0:I σ)
 (eP:∀s,I s→cb Γ a (fun e ef=>match e with| .normal=>I ef∧eT ef<eT s|e=>Q e ef) s):cb Γ (.loop a) Q σ:=by
 simp only[cb,CN]
 refine⟨I,eT,h0,fun s aE=>kb a (fun e ef lB=> ?_) (eP s aE)⟩
 cases e<;>exact lB
end
theorem amX (k:IntKind) (n:Int):ag.dV (.d (.int k n))=true:=rfl
theorem alV (b:Bool):ag.dV (.d (.bool b))=true:=rfl
theorem amY (b:Nat):ag.dV (.d (.flt b))=true:=rfl
theorem alW (k:IntKind) (n:List Int):ag.dV (.d (.ints k n))=true:=rfl
theorem alX (n:List Nat):ag.dV (.d (.flts n))=true:=rfl
theorem alY (k:Nat) (n:List (List D)):ag.dV (.d (.recs k n))=true:=rfl
theorem amZ (n:List D):ag.dV (.d (.ptr n))=true:=rfl
theorem aot (f:Nat) (x y:List D):ag.dV (.d (.fn f x y))=true:=rfl
theorem ak4:ag.dV (.d .nilfn)=true:=rfl
theorem alZ:ag.dV (.d .nilp)=true:=rfl
theorem am0 (n:List D):ag.dV (.d (.agg n))=false:=rfl
theorem am1 (n:List D):ag.dV (.d (.du n))=false:=rfl
theorem al0 (n:List ag):ag.dV (.agg n)=false:=rfl
theorem am2:ag.dV .dB=false:=rfl
theorem am3:ag.dV .any=false:=rfl
theorem am4 (i o:Nat):ag.dV (.box i o)=true:=rfl
theorem am5 (i o n:Nat):ag.dV (.own i o n)=true:=rfl
theorem am6 (i o n:Nat):ag.dV (.eo i o n)=true:=rfl
theorem aou (i:Nat):ag.dV (.mp i)=true:=rfl
theorem al1:ag.dV (.d .nili)=true:=rfl
theorem al2:ag.dV (.d .nilm)=true:=rfl
theorem am7 (t:Nat) (d:D):ag.dV (.d (.ifc t d))=true:=rfl
theorem aov (i j:Nat):ag.kill i (.mp j)=if j=i then .any else .mp j:=by simp[ag.kill,ag.has]
theorem am8 (i:Nat) (o n:List ag):ag.dV (.dk i o n)=true:=rfl
theorem ap2 (i:Nat) (x:D):ag.kill i (.d x)= .d x:=rfl
theorem am9 (i:Nat):ag.kill i .dB= .dB:=rfl
theorem ana (i:Nat):ag.kill i .any= .any:=rfl
theorem anb (i j o:Nat):ag.kill i (.box j o)=if j=i then .any else .box j o:=by simp[ag.kill,ag.has]
theorem anc (i j o n:Nat):ag.kill i (.own j o n)=if j=i then .any else .own j o n:=by simp[ag.kill,ag.has]
theorem ane (i j o n:Nat):ag.kill i (.eo j o n)=if j=i then .any else .eo j o n:=by simp[ag.kill,ag.has]
theorem anf (i:Nat) (cs:List ag):ag.kill i (.agg cs)=if ag.df i cs=true then .any else .agg cs:=by cases h:ag.df i cs<;>simp[ag.kill,ag.has,h]
theorem ang (i f:Nat) (x y:List ag):ag.kill i (.dk f x y)=if (ag.df i x||ag.df i y)=true then .any else .dk f x y:=by simp[ag.kill,ag.has]
section
variable {Γ:Env} {Q:fi→St→Prop} {σ σ':St} {K:St→Prop}
theorem IF:cb Γ .skip Q σ=Q .normal σ:=rfl
theorem ap3 (ops:List bW):cb Γ (.cC ops) Q σ=hc Γ (Q .normal) ops σ:=rfl
theorem RS (pre:List (bW×List Nat)) (yS:List bW):cb Γ (.oW pre yS) Q σ=di Γ (hc Γ (Q .normal) yS) pre (pT σ pre):=rfl
theorem So (x y:a3):cb Γ (.seq x y) Q σ=cb Γ x (fun e s=>match e with| .normal=>cb Γ y Q s|e=>Q e s) σ:=rfl
theorem ka (id:Nat) (x:a3):cb Γ (.block id x) Q σ=cb Γ x (fun e s=>match e with| .exit j=>if j=id then Q .normal s else Q (.exit j) s|e=>Q e s) σ:=rfl
theorem aow (id:Nat):cb Γ (.exit id) Q σ=Q (.exit id) σ:=rfl
theorem ap4:cb Γ .ret Q σ=Q .ret σ:=rfl
theorem anh:hc Γ K [] σ=K σ:=rfl
theorem ani:di Γ K [] σ=K σ:=rfl
end
section
variable (σ:St) (i j d t:Nat) (v:ag) (b:cm)
theorem aaw:(σ.put (some d) v).af t=if t=d then v else σ.af t:=rfl
theorem ZZ:(σ.put (some d) v).aA=σ.aA:=rfl
theorem Z0:σ.put none v=σ:=rfl
theorem Z1:(σ.ea i b).af=σ.af:=rfl
theorem Y9:(σ.ea i b).aA j=if j=i then some b else σ.aA j:=rfl
theorem Za:(σ.fresh i b).af t=(σ.af t).kill i:=rfl
theorem Yt:(σ.fresh i b).aA j=if j=i then some b else (σ.aA j).map (cm.kill i):=rfl
theorem Yu:(σ.forget i).af t=(σ.af t).kill i:=rfl
theorem XT:(σ.forget i).aA j=(σ.aA j).map (cm.kill i):=rfl
theorem aax:(σ.vG i).af=σ.af:=rfl
theorem Z2:(σ.vG i).aA j=if j=i then (σ.aA j).map (fun b=>⟨true,b.ext,b.c⟩)else σ.aA j:=rfl
theorem aay:σ.aU (.t t)=σ.af t:=rfl
theorem aaz (x:D):σ.aU (.c x)=c3 x:=rfl
end
def ak:=And.intro @aaw<|And.intro @ZZ<|And.intro @Z0<|And.intro @Z1<|And.intro @Y9<|And.intro @Za<|And.intro @Yt<|And.intro @Yu<|And.intro @XT<|And.intro @aax<|And.intro @Z2<|And.intro @aay<| @aaz
def cs {α:Type} (a:α) (F:α→Prop):Prop:=F a
@[congr] theorem aza {α:Type} {a b:α} {F:α→Prop} (h:a=b):cs a F=cs b F:=by rw[h]
section
variable (F:ag→Prop)
theorem asP (x:D):cs (.d x) F=F (.d x):=rfl
theorem ap5 (x:List ag):cs (.agg x) F=F (.agg x):=rfl
theorem ap6 (i o:Nat):cs (.box i o) F=F (.box i o):=rfl
theorem ap7 (i l n:Nat):cs (.own i l n) F=F (.own i l n):=rfl
theorem ap8 (i j o:Nat):cs (.eo i j o) F=F (.eo i j o):=rfl
theorem ap9 (f:Nat) (x y:List ag):cs (.dk f x y) F=F (.dk f x y):=rfl
theorem arO (i:Nat):cs (.mp i) F=F (.mp i):=rfl
theorem aqa:cs .dB F=F .dB:=rfl
theorem aqb:cs .any F=F .any:=rfl
end
theorem aox (F:Bool→Prop):cs true F=F true:=rfl
theorem anj (F:Bool→Prop):cs false F=F false:=rfl
section
variable (F:D→Prop)
theorem aoy (k:IntKind) (n:Int):cs (.int k n) F=F (.int k n):=rfl
theorem ank (b:Bool):cs (.bool b) F=F (.bool b):=rfl
theorem aoz (b:Nat):cs (.flt b) F=F (.flt b):=rfl
theorem anl (k:IntKind) (n:List Int):cs (.ints k n) F=F (.ints k n):=rfl
theorem anm (n:List Nat):cs (.flts n) F=F (.flts n):=rfl
theorem ann (k:Nat) (n:List (List D)):cs (.recs k n) F=F (.recs k n):=rfl
theorem aoA (n:List D):cs (.ptr n) F=F (.ptr n):=rfl
theorem aoB (n:List D):cs (.agg n) F=F (.agg n):=rfl
theorem aoC (n:List D):cs (.du n) F=F (.du n):=rfl
theorem aqc (f:Nat) (x y:List D):cs (.fn f x y) F=F (.fn f x y):=rfl
theorem al3:cs .nilfn F=F .nilfn:=rfl
theorem ano:cs .nilp F=F .nilp:=rfl
theorem anp:cs .nilm F=F .nilm:=rfl
theorem anq:cs .nili F=F .nili:=rfl
theorem aoD (t:Nat) (d:D):cs (.ifc t d) F=F (.ifc t d):=rfl
end
theorem Zb (b w:Bool) (p q:Prop):((b=w→p)∧(b=(!w)→q))=if b=w then p else q:=by
 cases b<;>cases w<;>simp
section
variable (Γ:Env) (σ:St) (K:St→Prop) (Q:fi→St→Prop)
theorem aqd (c:bk) (x y:a3):cb Γ (.cond c x y) Q σ=cs (σ.aU c) fun v=>match v with
 | .d (.bool t)=>if t=true then cb Γ x Q σ else cb Γ y Q σ
 |_=>False:=by
 show (match σ.aU c with| .d (.bool t)=>(t=true→cb Γ x Q σ)∧(t=false→cb Γ y Q σ)|_=>False)=_
 unfold cs
 generalize σ.aU c=X
 cases X with
 |d z=>cases z with
  |bool t=>cases t<;>simp
  |_=>rfl
 |_=>rfl
theorem asQ (d:Option Nat) (op:bx) (r:List bW):hc Γ K (⟨d,op,none⟩::r) σ=cG Γ d σ (hc Γ K r) op:=rfl
theorem arP (d:Option Nat) (op:bx) (t:Nat) (w:Bool) (r:List bW):hc Γ K (⟨d,op,some (t,w)⟩::r) σ=cs (σ.af t) fun v=>match v with
 | .d (.bool b)=>if b=w then cG Γ d σ (hc Γ K r) op else hc Γ K r (σ.put d .dB)
 | .dB=>hc Γ K r (σ.put d .dB)
 |_=>False:=by
 simp only[hc,guarded]
 unfold cs
 generalize σ.af t=X
 cases X with
 |d z=>cases z with
  |bool t=>exact Zb _ _ _ _
  |_=>rfl
 |_=>rfl
theorem arQ (d:Option Nat) (op:bx) (cl:List Nat) (r:List (bW×List Nat)):di Γ K ((⟨d,op,none⟩,cl)::r) σ=vH Γ ⟨d,op,none⟩ cl σ (di Γ K r):=rfl
theorem aqe (d:Option Nat) (op:bx) (t:Nat) (w:Bool) (cl:List Nat) (r:List (bW×List Nat)):di Γ K ((⟨d,op,some (t,w)⟩,cl)::r) σ=cs (σ.af t) fun v=>match v with
 | .d (.bool b)=>if b=w then vH Γ ⟨d,op,some (t,w)⟩ cl σ (di Γ K r)else di Γ K r (σ.put d .dB)
 | .dB=>di Γ K r (σ.put d .dB)
 |_=>False:=by
 simp only[di,guarded]
 unfold cs
 generalize σ.af t=X
 cases X with
 |d z=>cases z with
  |bool t=>exact Zb _ _ _ _
  |_=>rfl
 |_=>rfl
end
section
variable (Γ:Env) (σ:St) (K:ag→Prop)
theorem asR (x:bk):bf Γ σ K (.bg x)=cs (σ.aU x) K:=rfl
theorem aqf (c x y:bk):bf Γ σ K (.pick c x y)=cs (σ.aU c) fun v=>match v with
 | .d (.bool t)=>if t=true then cs (σ.aU x) K else cs (σ.aU y) K
 |_=>False:=by
 show (match σ.aU c with| .d (.bool t)=>(t=true→K (σ.aU x))∧(t=false→K (σ.aU y))|_=>False)=_
 unfold cs
 generalize σ.aU c=X
 cases X with
 |d z=>cases z with
  |bool t=>cases t<;>simp
  |_=>rfl
 |_=>rfl
theorem aqg (n:Nat) (g:Bool) (x:bk):bf Γ σ K (.load n g x)=cs (σ.aU x) fun v=>k8 σ n g v K:=rfl
theorem aoE (n:Nat) (g:Bool) (l:List D):k8 σ n g (.d (.ptr l)) K=if g then n≤l.length∧cs (.agg ((l.take n).map .d)) K else cs l.head? fun o=>match o with
 |some d=>K (.d d)
 |none=>False:=by
 unfold cs
 cases g
 ·cases l<;>rfl
 ·rfl
theorem aoF (n:Nat) (g:Bool) (i off:Nat):k8 σ n g (.box i off) K=cs (σ.aA i) fun b=>match b with
 |some ⟨_,_,.cells l⟩=>if g then off+n≤l.length∧cs (.agg ((l.drop off).take n)) K else cs l[off]? fun o=>match o with
  |some v=>cs v K
  |none=>False
 |_=>False:=by
 unfold cs
 simp only[k8]
 generalize σ.aA i=X
 rcases X with _|⟨f,e,c⟩
 ·rfl
 ·cases c<;>rfl
theorem aoG (n:Nat) (g:Bool) (i j off:Nat):k8 σ n g (.eo i j off) K=cs (σ.aA i) fun b=>match b with
 |some ⟨_,_,.ints k xs⟩=>off=0∧g=false∧j<xs.length∧K (.d (.int k (xs.getD j 0)))
 |some ⟨_,_,.flts xs⟩=>off=0∧g=false∧j<xs.length∧K (.d (.flt (xs.getD j 0)))
 |some ⟨_,_,.recs _ xs⟩=>j<xs.length∧(if g then off+n≤(xs.getD j []).length∧K (.agg ((((xs.getD j []).drop off).take n).map .d))else
  cs (xs.getD j [])[off]? fun o=>match o with
  |some d=>K (.d d)
  |none=>False)
 |_=>False:=by
 unfold cs
 simp only[k8]
 generalize σ.aA i=X
 rcases X with _|⟨f,e,c⟩
 ·rfl
 ·cases c<;>rfl
theorem aoH (x:bk):bf Γ σ K (.zH x)=(RV.cs (σ.aU x) fun dK=>match dK with
 | .box i o=>K (.box i o)
 | .eo i j o=>K (.eo i j o)
 | .d (.ptr cs)=>K (.d (.ptr cs))
 | .d (.fn f a b)=>K (.d (.fn f a b))
 | .dk f a b=>K (.dk f a b)
 |_=>False):=rfl
theorem arR (op:BinOp) (x y:bk):bf Γ σ K (.bin op x y)=(RV.cs (σ.aU x) fun dK=>RV.cs (σ.aU y) fun fI=>match dK,fI with
 | .d (.int k a),.d (.int cX b)=>(k=cX∨op= .shl∨op= .shr)∧E7 op k a b K
 | .d (.flt a),.d (.flt b)=>E8 op a b K
 |_,_=>False):=rfl
theorem aqh (ne:Bool) (x y:bk):bf Γ σ K (.q5 ne x y)=(RV.cs (σ.aU x) fun dK=>RV.cs (σ.aU y) fun fI=>match dK,fI with
 | .d (.bool a),.d (.bool b)=>K (.d (.bool (if ne then a !=b else a==b)))
 |_,_=>False):=rfl
theorem arS (ne:Bool) (x y:bk):bf Γ σ K (.yQ ne x y)=(RV.cs (σ.aU x) fun dK=>RV.cs (σ.aU y) fun fI=>match dK.pair,fI.pair with
 |some p,some q=>K (.d (.bool (if ne then !(p.1==q.1 && p.2==q.2)else (p.1==q.1 && p.2==q.2))))
 |_,_=>False):=rfl
theorem asS (op:UnOp) (x:bk):bf Γ σ K (.un op x)=(RV.cs (σ.aU x) fun dK=>match op,dK with
 | .not,.d (.bool b)=>K (.d (.bool (!b)))
 | .neg,.d (.int k n)=>arith k (0 - n) K
 | .neg,.d (.flt b)=>K (.d (.flt (hb b)))
 |_,_=>False):=rfl
theorem aqi (k:IntKind) (x:bk):bf Γ σ K (.conv k x)=(RV.cs (σ.aU x) fun dK=>match dK with
 | .d (.int _ n)=>arith k n K
 |_=>False):=rfl
theorem aoI (x:bk):bf Γ σ K (.ys x)=(RV.cs (σ.aU x) fun dK=>match dK with
 | .d (.int _ n)=>K (.d (.flt (EI n)))
 | .d (.flt b)=>K (.d (.flt b))
 |_=>False):=rfl
theorem aoJ (off:Nat) (x:bk):bf Γ σ K (.fM off x)=(RV.cs (σ.aU x) fun dK=>match dK with
 | .box i o=>K (.box i (o+off))
 | .eo i j o=>K (.eo i j (o+off))
 | .d (.ptr cs)=>K (.d (.ptr (cs.drop off)))
 |_=>False):=rfl
theorem arT (off n:Nat) (g:Bool) (x:bk):bf Γ σ K (.BI off n g x)=(RV.cs (σ.aU x) fun dK=>match dK with
 | .agg cs=>if g then off+n≤cs.length∧K (.agg ((cs.drop off).take n))else
   RV.cs (cs[off]?) fun fI=>match fI with
   |some v=>K v
   |none=>False
 |_=>False):=rfl
theorem aoK (sz:Nat) (x i:bk):bf Γ σ K (.iE sz x i)=(RV.cs (σ.aU i) fun dK=>match dK with
 | .d (.int _ n)=>RV.cs (σ.aU x) fun Y=>zF σ sz Y n K
 |_=>False):=rfl
theorem aoL (len sz:Nat) (x i:bk):bf Γ σ K (.Bb len sz x i)=(RV.cs (σ.aU x) fun dK=>RV.cs (σ.aU i) fun fI=>match dK,fI with
 | .box b o,.d (.int _ n)=>0≤n∧n<len∧K (.box b (o+n.toNat*sz))
 | .d (.ptr cs),.d (.int _ n)=>0≤n∧n<len∧K (.d (.ptr (cs.drop (n.toNat*sz))))
 |_,_=>False):=rfl
theorem arU (len n:Nat) (g:Bool) (x i:bk):bf Γ σ K (.idx len n g x i)=(RV.cs (σ.aU x) fun dK=>RV.cs (σ.aU i) fun fI=>match dK,fI with
 | .agg cs,.d (.int _ j)=>0≤j∧j<len∧(if g then j.toNat*n+n≤cs.length∧K (.agg ((cs.drop (j.toNat*n)).take n))else
   RV.cs (cs[j.toNat*n]?) fun xL=>match xL with
   |some v=>K v
   |none=>False)
 |_,_=>False):=rfl
theorem aqj (i:Nat) (x:bk):bf Γ σ K (.l5 i x)=(RV.cs (σ.aU x) fun dK=>match dK with
 | .d (.du ds)=>RV.cs (ds[i]?) fun fI=>match fI with
   |some d=>RV.cs (c3 d) K
   |none=>False
 |_=>False):=rfl
theorem arV (x:bk):bf Γ σ K (.len x)=(RV.cs (σ.aU x) fun X=>Jt X K):=rfl
theorem asT (x y:bk):bf Γ σ K (.po x y)=(RV.cs (σ.aU x) fun dK=>RV.cs (σ.aU y) fun fI=>match dK,fI with
 | .d (.int k a),.d (.int _ b)=>K (.d (.int k (if b>a then b else a)))
 |_,_=>False):=rfl
theorem asU (x y:bk):bf Γ σ K (.Cd x y)=(RV.cs (σ.aU x) fun dK=>RV.cs (σ.aU y) fun fI=>match dK,fI with
 | .d (.int k a),.d (.int _ b)=>K (.d (.int k (if b<a then b else a)))
 |_,_=>False):=rfl
theorem arW (sz:Nat) (x:bk) (lo hi:Option bk):bf Γ σ K (.BJ sz x lo hi)=(RV.cs (σ.aU x) fun X=>RV.cs (lo.map σ.aU) fun L=>RV.cs (hi.map σ.aU) fun H=>tG σ sz X L H K):=rfl
theorem aoM (zero:List D) (parts:List (Nat×Nat×bk)):bf Γ σ K (.build zero parts)=(RV.cs (Bd (zero.map .d) (parts.map fun p=>(p.1,p.2.1,σ.aU p.2.2))) fun dK=>match dK with
 |some cs=>K (.agg cs)
 |none=>False):=rfl
theorem arX (ek:dM) (parts:List bk):bf Γ σ K (.rI ek parts)=(ag.g8 (cr σ parts)=true∧RV.cs (toDs σ (cr σ parts)) fun dK=>match dK with
 |some ds=>RV.cs (asSlice ek ds) fun fI=>match fI with
  |some d=>K (.d d)
  |none=>False
 |none=>False):=rfl
theorem aqk (f:Nat) (fst cap:List bk):bf Γ σ K (.Bn f fst cap)=(if (ag.g8 (cr σ fst) && ag.g8 (cr σ cap))=true then
 RV.cs (toDs σ (cr σ fst)) fun dK=>RV.cs (toDs σ (cr σ cap)) fun fI=>match dK,fI with
 |some a,some b=>K (.d (.fn f a b))
 |_,_=>False
 else K (.dk f (cr σ fst) (cr σ cap))):=rfl
theorem aql (f:Nat) (args:List bk):bf Γ σ K (.call f args)=(RV.cs (toDs σ (cr σ args)) fun dK=>RV.cs (Γ.fn f) fun fI=>match dK,fI with
 |some ds,some C=>C.pre ds∧((C.res ds).flat=true∨ag.g8 (cr σ args)=true)∧RV.cs (C.res ds) fun d=>K (c3 d)
 |_,_=>False):=rfl
theorem aoN (x:bk) (args:List bk):bf Γ σ K (.hJ x args)=(RV.cs (σ.aU x) fun dK=>match dK with
 | .d (.fn f fst cap)=>RV.cs (toDs σ (cr σ args)) fun fI=>RV.cs (Γ.fn f) fun xL=>match fI,xL with
   |some ds,some C=>C.pre (fst++ds++cap)∧((C.res (fst++ds++cap)).flat=true∨ag.g8 (cr σ args)=true)∧RV.cs (C.res (fst++ds++cap)) fun d=>K (c3 d)
   |_,_=>False
 | .dk f fst cap=>RV.cs (Γ.mt f) fun DV=>match DV with
   |some C=>RV.cs (some (fst++cr σ args++cap)) fun Y=>match Y with
    |some vs=>yA C σ K vs
    |none=>False
   |none=>False
 |_=>False):=rfl
theorem anr (ne:Bool) (x:bk):bf Γ σ K (.yj ne x)=(RV.cs (σ.aU x) fun dK=>match dK with
 | .d .nili=>K (.d (.bool (!ne)))
 | .d (.ifc _ _)=>K (.d (.bool ne))
 |_=>False):=rfl
theorem arY (ne:Bool) (len:Nat) (x y:bk):bf Γ σ K (.yR ne len x y)=(RV.cs (σ.aU x) fun dK=>RV.cs (σ.aU y) fun fI=>RV.cs dK.yz fun ayi=>RV.cs fI.yz fun ayj=>match ayi,ayj with
 |some p,some q=>p.length=len∧q.length=len∧K (.d (.bool (if ne then !(p==q)else p==q)))
 |_,_=>False):=rfl
theorem arZ (t:Nat) (x:bk):bf Γ σ K (.BK t x)=(RV.cs (σ.aU x) fun dK=>dK.pure=true∧RV.cs (toD σ dK) fun fI=>match fI with
 |some d=>K (.d (.ifc t d))
 |none=>False):=rfl
theorem aqm (kQ:List (Nat×Nat×Option (Nat×Nat×Bool))) (x:bk) (args:List bk):bf Γ σ K (.sq kQ x args)=(RV.cs (σ.aU x) fun dK=>match dK with
 | .d (.ifc t d)=>RV.cs (u9 kQ t) fun fI=>match fI with
   |some (f,kq)=>RV.cs (tC kq d) fun xL=>RV.cs (toDs σ (cr σ args)) fun DV=>RV.cs (Γ.fn f) fun HF=>match xL,DV,HF with
    |some r,some ds,some C=>C.pre (r::ds)∧((C.res (r::ds)).flat=true∨ag.g8 (cr σ args)=true)∧RV.cs (C.res (r::ds)) fun d=>K (c3 d)
    |_,_,_=>False
   |none=>False
 |_=>False):=rfl
theorem aoO (x:bk):bf Γ σ K (.oT x)=(RV.cs (σ.aU x) fun dK=>match dK with
 | .d (.int .u64 n)=>RV.cs (eL n.toNat) fun b=>K (.d (.flt b))
 |_=>False):=rfl
theorem aqn (n:Nat) (ok:Bool) (zero:D) (m k:bk):bf Γ σ K (.Bo n ok zero m k)=(RV.cs (σ.aU m) fun dK=>RV.cs (σ.aU k) fun fI=>RV.cs fI.key fun xL=>match dK,xL with
 | .mp i,some k=>RV.cs (σ.aA i) fun DV=>match DV with
   |some ⟨_,_,.map kZ es⟩=>kZ=n∧k.length=n∧RV.cs (kc es k) fun HF=>match HF with
    |some d=>K (if ok then .d (.du [d,.bool true])else c3 d)
    |none=>K (if ok then .d (.du [zero,.bool false])else c3 zero)
   |_=>False
 |_,_=>False):=rfl
theorem aqo (C:gu) (vs:List ag):yA C σ K vs=(RV.cs (some (distinct (ag.jb vs))) fun is=>match is with
 |some is=>RV.cs (contents σ (fun _=>false) is) fun X=>match X with
  |some cs=>RV.cs (some (ag.g1 (fun i=>bF+placeOf is i) vs)) fun Y=>match Y with
   |some a4=>C.pre a4 cs∧C.out a4 cs=cs∧RV.cs (C.res a4 cs) fun d=>K (c3 d)
   |none=>False
  |none=>False
 |none=>False):=rfl
end
section
variable (Γ:Env) (σ:St) (K:St→Prop) (dst:Option Nat)
theorem ar0 (ek:dM) (zero:List D) (n:bk) (i:Nat):cG Γ (some i) σ K (.rJ ek zero n)=(RV.cs (σ.aU n) fun X=>match X with
 | .d (.int _ n)=>RV.cs (tu ek zero n.toNat) fun Y=>match Y with
   |some c=>0≤n∧n≤b1∧K ((σ.fresh i ⟨false,false,c⟩).put (some i) (.own i 0 n.toNat))
   |none=>False
 |_=>False):=by
 simp only[cG,RV.cs]
 generalize σ.aU n=X
 cases X with
 |d z=>cases z<;>rfl
 |_=>rfl
theorem ar1 (x:bk) (i:Nat):cG Γ (some i) σ K (.box x)=(RV.cs (σ.aU x) fun X=>X.has i=false∧X.cells.all ag.dV=true∧K ((σ.fresh i ⟨false,false,.cells X.cells⟩).put (some i) (.box i 0))):=rfl
theorem aoP (zero:List D) (i:Nat):cG Γ (some i) σ K (.alloc zero)=K ((σ.fresh i ⟨false,false,.cells (zero.map .d)⟩).put (some i) (.box i 0)):=rfl
theorem ar2 (ek:dM) (i:Nat):cG Γ (some i) σ K (.nil ek)=K ((σ.fresh i ⟨false,false,lV ek⟩).put (some i) (.own i 0 0)):=rfl
theorem aoQ (n:Nat) (a x:bk):cG Γ dst σ K (.store n a x)=(RV.cs (σ.aU a) fun X=>match X with
 | .box i off=>RV.cs (σ.aA i) fun Y=>match Y with
   |some ⟨false,e,c⟩=>RV.cs (σ.aU x) fun Z=>Z.cells.length=n∧Z.cells.all ag.dV=true∧RV.cs (tv c off Z.cells) fun U=>match U with
    |some c=>K ((σ.ea i ⟨false,e,c⟩).put dst .dB)
    |none=>False
   |_=>False
 | .eo i j off=>RV.cs (σ.aA i) fun Y=>match Y with
   |some ⟨false,e,c⟩=>RV.cs (σ.aU x) fun Z=>Z.cells.length=n∧Z.cells.all ag.dV=true∧RV.cs (u2 c j off Z.cells) fun U=>match U with
    |some c=>K ((σ.ea i ⟨false,e,c⟩).put dst .dB)
    |none=>False
   |_=>False
 |_=>False):=rfl
theorem ar3 (ek:dM) (x y:bk):cG Γ dst σ K (.app ek x y)=(RV.cs (σ.aU x) fun X=>match X with
 | .own i lo n=>RV.cs (σ.aA i) fun Y=>RV.cs (toD σ (σ.aU y)) fun Z=>match Y,Z with
   |some ⟨false,false,c⟩,some d=>RV.cs (E9 c d) fun U=>match U with
    |some c'=>p2 (σ.aA i)=some ek.sz∧lo=0∧n=c.count∧c'.count≤b1∧K (((σ.forget i).ea i ⟨false,false,c'⟩).put dst (.own i 0 c'.count))
    |none=>False
   |_,_=>False
 |_=>False):=rfl
theorem aqp (ek:dM) (x y:bk):cG Γ dst σ K (.copy ek x y)=(RV.cs (σ.aU x) fun X=>match X with
 | .own i lo n=>RV.cs (σ.aA i) fun Y=>RV.cs (toD σ (σ.aU y)) fun Z=>match Y,Z with
   |some ⟨false,e,c⟩,some d=>RV.cs (EV c lo n d) fun U=>match U with
    |some (c',m)=>p2 (σ.aA i)=some ek.sz∧K ((σ.ea i ⟨false,e,c'⟩).put dst (.d (.int .i64 m)))
    |none=>False
   |_,_=>False
 |_=>False):=rfl
theorem aoR (f:Nat) (args:List bk):cG Γ dst σ K (.call f args)=(RV.cs (cr σ args) fun vs=>pS Γ dst σ K f vs):=rfl
theorem ans (x:bk) (args:List bk):cG Γ dst σ K (.hJ x args)=(RV.cs (σ.aU x) fun X=>match X with
 | .d (.fn f fst cap)=>RV.cs (fst.map c3++cr σ args++cap.map c3) fun vs=>pS Γ dst σ K f vs
 | .dk f fst cap=>RV.cs (fst++cr σ args++cap) fun vs=>pS Γ dst σ K f vs
 |_=>False):=rfl
theorem aoS (f:Nat) (vs:List ag):pS Γ dst σ K f vs=(RV.cs (Γ.mt f) fun X=>match X with
 |some C=>sl C dst σ K vs
 |none=>RV.cs (Γ.fn f) fun Y=>match Y with
  |some C=>va C dst σ K vs
  |none=>False):=by
 unfold pS RV.cs
 cases Γ.mt f with
 |some C=>rfl
 |none=>cases Γ.fn f<;>rfl
def Sp (C:br) (dst:Option Nat) (σ:St) (K:St→Prop) (vs:List ag):Prop:=RV.cs (toDs σ vs) fun X=>match X with
    |some ds=>C.pre ds∧RV.cs (C.res ds) fun d=>if (d.flat||ag.g8 vs)=true then K (σ.put dst (c3 d))
     else q6 σ vs=true∧K ((l6 σ vs).put dst (c3 d))
    |none=>False
def Sq (C:br) (dst:Option Nat) (σ:St) (K:St→Prop) (vs:List ag):Prop:=RV.cs (toDs σ vs) fun X=>match X with
    |some ds=>C.pre ds∧RV.cs (C.res ds) fun d=>RV.cs (jr d) fun Y=>match dst,Y with
     |some i,some (c,n)=>K ((σ.fresh i ⟨false,false,c⟩).put (some i) (.own i 0 n))
     |_,_=>False
    |none=>False
theorem aoT (C:br) (vs:List ag) (h:C.own=false):va C dst σ K vs=Sp C dst σ K vs:=by
 unfold va
 simp only[h,Bool.false_eq_true,if_false,Sp,RV.cs]
 rfl
theorem ant (C:br) (vs:List ag) (h:C.own=true):va C dst σ K vs=Sq C dst σ K vs:=by
 unfold va
 simp only[h,if_true,Sq,RV.cs]
 rfl
theorem anu (C:br) (vs:List ag):Sp C dst σ K vs=(RV.cs (toDs σ vs) fun X=>match X with
 |some ds=>C.pre ds∧RV.cs (C.res ds) fun d=>if (d.flat||ag.g8 vs)=true then K (σ.put dst (c3 d))
  else q6 σ vs=true∧K ((l6 σ vs).put dst (c3 d))
 |none=>False):=rfl
theorem anv (C:br) (vs:List ag):Sq C dst σ K vs=(RV.cs (toDs σ vs) fun X=>match X with
 |some ds=>C.pre ds∧RV.cs (C.res ds) fun d=>RV.cs (jr d) fun Y=>match dst,Y with
  |some i,some (c,n)=>K ((σ.fresh i ⟨false,false,c⟩).put (some i) (.own i 0 n))
  |_,_=>False
 |none=>False):=rfl
theorem aoU (x:bk):cG Γ dst σ K (.sj x)=(RV.cs (σ.aU x) fun dK=>match dK with
 | .d (.flt b)=>∀y:Nat,eL y=b→K (σ.put dst (.d (.int .u64 y)))
 |_=>False):=rfl
theorem anw (ks:List dM) (i:Nat):cG Γ (some i) σ K (.yk ks)=K (((zG σ (i+500000) ks).fresh i ⟨false,false,.cells (yB (i+500000) ks)⟩).put (some i) (.box i 0)):=rfl
theorem al4 (j:Nat):zG σ j []=σ:=rfl
theorem al5 (j:Nat) (k:dM) (r:List dM):zG σ j (k::r)=zG (σ.fresh j ⟨false,false,lV k⟩) (j+100000) r:=rfl
theorem aoV (n i:Nat):cG Γ (some i) σ K (.q0 n)=K ((σ.fresh i ⟨false,false,.map n []⟩).put (some i) (.mp i)):=rfl
theorem aoW (n:Nat) (m k x:bk):cG Γ dst σ K (.yt n m k x)=(RV.cs (σ.aU m) fun dK=>RV.cs (σ.aU k) fun fI=>RV.cs fI.key fun xL=>match dK,xL with
 | .mp i,some k=>RV.cs (σ.aA i) fun DV=>RV.cs (σ.aU x) fun HF=>RV.cs (toD σ HF) fun ayk=>match DV,ayk with
   |some ⟨false,e,.map kZ es⟩,some d=>kZ=n∧k.length=n∧HF.pure=true∧K ((σ.ea i ⟨false,e,.map n (qW es k d)⟩).put dst .dB)
   |_,_=>False
 |_,_=>False):=rfl
theorem aoX (kQ:List (Nat×Nat×Option (Nat×Nat×Bool))) (x:bk) (args:List bk):cG Γ dst σ K (.sq kQ x args)=(RV.cs (σ.aU x) fun dK=>match dK with
 | .d (.ifc t d)=>RV.cs (u9 kQ t) fun fI=>match fI with
   |some (f,kq)=>RV.cs (tC kq d) fun xL=>match xL with
    |some r=>RV.cs (c3 r::cr σ args) fun vs=>pS Γ dst σ K f vs
    |none=>False
   |none=>False
 |_=>False):=rfl
theorem aoY (x:bk):cG Γ dst σ K (.Bc x)=(RV.cs (σ.aU x) fun v=>RV.cs (toD σ v) fun X=>match X with
 |some d=>d.NQ=true∧∀b:Bool,(b=true→d.emp=true)→K (σ.put dst (.d (.bool b)))
 |none=>False):=rfl
theorem aqq (l:a3) (rs:List bo) (a4:List D) (K:D→Prop):Fa Γ l rs a4 K=cb Γ l (fun e σ=>match e with
 | .exit _=>False
 |_=>Jv rs σ K) (uo a4):=rfl
theorem aqr (t:Nat) (K:D→Prop):Jv [.tmp t] σ K=(RV.cs (σ.af t) fun X=>match X with
 | .own i lo n=>RV.cs (σ.aA i) fun Y=>match Y with
   |some ⟨false,false,.ints k xs⟩=>lo=0∧xs.length=n∧K (.ints k xs)
   |some ⟨false,false,.flts xs⟩=>lo=0∧xs.length=n∧K (.flts xs)
   |_=>False
 |_=>False):=rfl
theorem aoZ (C:gu) (vs:List ag):sl C dst σ K vs=(RV.cs (some (reach σ (reach σ (distinct (ag.jb vs))))) fun is=>match is with
 |some is=>yn C dst σ K vs is
 |none=>False):=rfl
theorem anx (C:gu) (vs:List ag) (is:List Nat):yn C dst σ K vs is=(RV.cs (contents σ (fun i=>is.contains i) is) fun X=>match X with
 |some OS=>RV.cs (some (ag.g1 (fun i=>bF+placeOf is i) vs,OS.map (BC.eh fun i=>bF+placeOf is i))) fun Y=>match Y with
  |some (a4,cs)=>C.pre a4 cs∧RV.cs (some (C.out a4 cs,C.res a4 cs)) fun Z=>match Z with
   |some (o,d)=>o.length=is.length∧o.all (BC.tidy (Be is.length))=true∧K ((iD σ is (o.map (BC.eh fun i=>is.getD (i - bF) 0))).put dst (c3 d))
   |none=>False
  |none=>False
 |none=>False):=rfl
end
section
variable (Γ:Env) (σ:St) (K:St→Prop) (F:ag→Prop) (dst:Option Nat)
theorem asV (x:bk):cG Γ dst σ K (.bg x)=RV.cs (σ.aU x) fun v=>K (σ.put dst v):=rfl
theorem aqs (c x y:bk):cG Γ dst σ K (.pick c x y)=bf Γ σ (fun v=>K (σ.put dst v)) (.pick c x y):=rfl
theorem aqt (n:Nat) (g:Bool) (x:bk):cG Γ dst σ K (.load n g x)=bf Γ σ (fun v=>K (σ.put dst v)) (.load n g x):=rfl
theorem ao0 (x:bk):cG Γ dst σ K (.zH x)=bf Γ σ (fun v=>K (σ.put dst v)) (.zH x):=rfl
theorem ar4 (op:BinOp) (x y:bk):cG Γ dst σ K (.bin op x y)=bf Γ σ (fun v=>K (σ.put dst v)) (.bin op x y):=rfl
theorem aqu (ne:Bool) (x y:bk):cG Γ dst σ K (.q5 ne x y)=bf Γ σ (fun v=>K (σ.put dst v)) (.q5 ne x y):=rfl
theorem ar5 (ne:Bool) (x y:bk):cG Γ dst σ K (.yQ ne x y)=bf Γ σ (fun v=>K (σ.put dst v)) (.yQ ne x y):=rfl
theorem anz (ne:Bool) (x:bk):cG Γ dst σ K (.yj ne x)=bf Γ σ (fun v=>K (σ.put dst v)) (.yj ne x):=rfl
theorem ar6 (ne:Bool) (len:Nat) (x y:bk):cG Γ dst σ K (.yR ne len x y)=bf Γ σ (fun v=>K (σ.put dst v)) (.yR ne len x y):=rfl
theorem ar7 (t:Nat) (x:bk):cG Γ dst σ K (.BK t x)=bf Γ σ (fun v=>K (σ.put dst v)) (.BK t x):=rfl
theorem ao1 (x:bk):cG Γ dst σ K (.oT x)=bf Γ σ (fun v=>K (σ.put dst v)) (.oT x):=rfl
theorem aqv (n:Nat) (ok:Bool) (zero:D) (m k:bk):cG Γ dst σ K (.Bo n ok zero m k)=bf Γ σ (fun v=>K (σ.put dst v)) (.Bo n ok zero m k):=rfl
theorem asW (op:UnOp) (x:bk):cG Γ dst σ K (.un op x)=bf Γ σ (fun v=>K (σ.put dst v)) (.un op x):=rfl
theorem aqw (k:IntKind) (x:bk):cG Γ dst σ K (.conv k x)=bf Γ σ (fun v=>K (σ.put dst v)) (.conv k x):=rfl
theorem ao2 (x:bk):cG Γ dst σ K (.ys x)=bf Γ σ (fun v=>K (σ.put dst v)) (.ys x):=rfl
theorem ao3 (off:Nat) (x:bk):cG Γ dst σ K (.fM off x)=bf Γ σ (fun v=>K (σ.put dst v)) (.fM off x):=rfl
theorem ar8 (off n:Nat) (g:Bool) (x:bk):cG Γ dst σ K (.BI off n g x)=bf Γ σ (fun v=>K (σ.put dst v)) (.BI off n g x):=rfl
theorem ao4 (sz:Nat) (x i:bk):cG Γ dst σ K (.iE sz x i)=bf Γ σ (fun v=>K (σ.put dst v)) (.iE sz x i):=rfl
theorem ao5 (len sz:Nat) (x i:bk):cG Γ dst σ K (.Bb len sz x i)=bf Γ σ (fun v=>K (σ.put dst v)) (.Bb len sz x i):=rfl
theorem ar9 (len n:Nat) (g:Bool) (x i:bk):cG Γ dst σ K (.idx len n g x i)=bf Γ σ (fun v=>K (σ.put dst v)) (.idx len n g x i):=rfl
theorem aqx (i:Nat) (x:bk):cG Γ dst σ K (.l5 i x)=bf Γ σ (fun v=>K (σ.put dst v)) (.l5 i x):=rfl
theorem asa (x:bk):cG Γ dst σ K (.len x)=bf Γ σ (fun v=>K (σ.put dst v)) (.len x):=rfl
theorem asX (x y:bk):cG Γ dst σ K (.po x y)=bf Γ σ (fun v=>K (σ.put dst v)) (.po x y):=rfl
theorem asY (x y:bk):cG Γ dst σ K (.Cd x y)=bf Γ σ (fun v=>K (σ.put dst v)) (.Cd x y):=rfl
theorem asb (sz:Nat) (x:bk) (lo hi:Option bk):cG Γ dst σ K (.BJ sz x lo hi)=bf Γ σ (fun v=>K (σ.put dst v)) (.BJ sz x lo hi):=rfl
theorem ao6 (zero:List D) (parts:List (Nat×Nat×bk)):cG Γ dst σ K (.build zero parts)=bf Γ σ (fun v=>K (σ.put dst v)) (.build zero parts):=rfl
theorem asc (ek:dM) (parts:List bk):cG Γ dst σ K (.rI ek parts)=bf Γ σ (fun v=>K (σ.put dst v)) (.rI ek parts):=rfl
theorem aqy (f:Nat) (fst cap:List bk):cG Γ dst σ K (.Bn f fst cap)=bf Γ σ (fun v=>K (σ.put dst v)) (.Bn f fst cap):=rfl
end
section
variable (Γ:Env) (σ:St)
theorem aqz (x:bk) (K:ag→cm→Prop) (i:Nat):made σ (.box x) K i=(RV.cs (σ.aU x) fun X=>X.cells.all ag.dV=true∧K (.box i 0) ⟨false,false,.cells X.cells⟩):=rfl
theorem aqA (ek:dM) (zero:List D) (n:bk) (K:ag→cm→Prop) (i:Nat):made σ (.rJ ek zero n) K i=(RV.cs (σ.aU n) fun X=>match X with
 | .d (.int _ n)=>RV.cs (tu ek zero n.toNat) fun Y=>match Y with
   |some c=>0≤n∧n≤b1∧K (.own i 0 n.toNat) ⟨false,false,c⟩
   |none=>False
 |_=>False):=rfl
theorem anA (zero:List D) (K:ag→cm→Prop) (i:Nat):made σ (.alloc zero) K i=K (.box i 0) ⟨false,false,.cells (zero.map .d)⟩:=rfl
theorem anB (n:Nat) (K:ag→cm→Prop) (i:Nat):made σ (.q0 n) K i=K (.mp i) ⟨false,false,.map n []⟩:=rfl
theorem aqB (ek:dM) (K:ag→cm→Prop) (i:Nat):made σ (.nil ek) K i=K (.own i 0 0) ⟨false,false,lV ek⟩:=rfl
theorem anC (n p:Nat) (x:bk) (K:Nat→cm→Prop):stored σ n (.t p) x K=(RV.cs (σ.aU (.t p)) fun X=>match X with
 | .box i off=>i=p∧RV.cs (σ.aA i) fun Y=>match Y with
   |some ⟨false,e,c⟩=>RV.cs (σ.aU x) fun Z=>Z.cells.length=n∧Z.cells.all ag.dV=true∧RV.cs (tv c off Z.cells) fun U=>match U with
    |some c=>K i ⟨false,e,c⟩
    |none=>False
   |_=>False
 |_=>False):=by
 simp only[stored,RV.cs]
 generalize σ.aU (.t p)=X
 cases X<;>rfl
theorem al6 (n:Nat) (a x:bk) (K:Nat→cm→Prop):yc σ n a x K=(RV.cs (σ.aU a) fun X=>match X with
 | .box i off=>RV.cs (σ.aA i) fun Y=>match Y with
   |some ⟨false,e,c⟩=>RV.cs (σ.aU x) fun Z=>Z.cells.length=n∧Z.cells.all ag.dV=true∧RV.cs (tv c off Z.cells) fun U=>match U with
    |some c=>K i ⟨false,e,c⟩
    |none=>False
   |_=>False
 | .eo i j off=>RV.cs (σ.aA i) fun Y=>match Y with
   |some ⟨false,e,c⟩=>RV.cs (σ.aU x) fun Z=>Z.cells.length=n∧Z.cells.all ag.dV=true∧RV.cs (u2 c j off Z.cells) fun U=>match U with
    |some c=>K i ⟨false,e,c⟩
    |none=>False
   |_=>False
 |_=>False):=rfl
theorem anD (dst:Option Nat) (K:St→Prop) (f:Nat) (bm:List bk):Bf Γ dst [] σ K f bm=(RV.cs (Γ.mt f) fun X=>match X with
 |some C=>RV.cs (cr σ bm) fun vs=>sl C dst σ K vs
 |none=>tH Γ dst (.call f bm) σ K):=by
 unfold Bf RV.cs
 cases Γ.mt f<;>rfl
theorem anE (dst:Option Nat) (K:St→Prop) (i:Nat) (cl:List Nat) (f:Nat) (bm:List bk):Bf Γ dst (i::cl) σ K f bm=tH Γ dst (.call f bm) σ K:=rfl
theorem al7 (n:Nat) (a x:bk) (K:Nat→cm→Prop):uX [] σ n a x K=yc σ n a x K:=rfl
theorem al8 (i:Nat) (cl:List Nat) (n:Nat) (a x:bk) (K:Nat→cm→Prop):uX (i::cl) σ n a x K=stored σ n a x K:=rfl
theorem aqC (rs:List bo) (K:D→Prop):kJ rs σ K=(RV.cs (yu σ rs) fun X=>match X with
 |some vs=>q6 σ vs=true∧RV.cs (toDs σ vs) fun Y=>match Y with
  |some ds=>K (CX ds)
  |none=>False
 |none=>False):=rfl
theorem gx (l:a3) (rs:List bo) (args:List D) (K:D→Prop):bK Γ l rs args K=cb Γ l (fun e σ=>match e with| .exit _=>False|_=>kJ rs σ K) (uo args):=rfl
theorem aqD (l:a3) (rs:List bo) (a4:List ag) (cs:List BC) (K:D→List BC→Prop):l7 Γ l rs a4 cs K=cb Γ l (fun e σ=>match e with
 | .exit _=>False
 |_=>kJ rs σ fun d=>RV.cs (yo σ cs.length 0 cs.length) fun X=>match X with
  |some cs'=>K d cs'
  |none=>False) (yC a4 cs):=rfl
theorem aqE (args:List D) (t:Nat):(uo args).af t=match args[t]? with|some d=>c3 d|none=> .dB:=rfl
theorem aqF (args:List D) (t:Nat):(uo args).aA t=none:=rfl
theorem ao7 (args:List ag) (cs:List BC) (t:Nat):(yC args cs).af t=match args[t]? with|some d=>d|none=> .dB:=rfl
theorem Z3 (args:List ag) (cs:List BC) (t:Nat):(yC args cs).aA t=if bF≤t then (cs[t - bF]?).map (fun c=>⟨false,true,c⟩)else none:=rfl
theorem anF (args:List ag) (cs:List BC) (t:Nat):(yC args cs).aA (bF+t)=(cs[t]?).map (fun c=>⟨false,true,c⟩):=by
 rw[Z3,if_pos (Nat.le_add_right _ _),Nat.add_sub_cancel_left]
end
abbrev Env.has (Γ:Env) (f:Nat) (C:br):Prop:=Γ.fn f=some C∧Γ.mt f=none∧C.own=false
theorem aqG (F:Option (BC)→Prop):cs none F=F none:=rfl
theorem aqH (F:Option (BC)→Prop) (a:BC):cs (some a) F=F (some a):=rfl
theorem aqI (F:Option (cm)→Prop):cs none F=F none:=rfl
theorem aqJ (F:Option (cm)→Prop) (a:cm):cs (some a) F=F (some a):=rfl
theorem asd (F:Option (D)→Prop):cs none F=F none:=rfl
theorem ase (F:Option (D)→Prop) (a:D):cs (some a) F=F (some a):=rfl
theorem aqK (F:Option (List D)→Prop):cs none F=F none:=rfl
theorem aqL (F:Option (List D)→Prop) (a:List D):cs (some a) F=F (some a):=rfl
theorem aqM (F:Option (ag)→Prop):cs none F=F none:=rfl
theorem aqN (F:Option (ag)→Prop) (a:ag):cs (some a) F=F (some a):=rfl
theorem ao8 (F:Option (List ag)→Prop):cs none F=F none:=rfl
theorem ao9 (F:Option (List ag)→Prop) (a:List ag):cs (some a) F=F (some a):=rfl
theorem apa (F:Option (List BC)→Prop):cs none F=F none:=rfl
theorem apb (F:Option (List BC)→Prop) (a:List BC):cs (some a) F=F (some a):=rfl
theorem aqO (F:Option (br)→Prop):cs none F=F none:=rfl
theorem aqP (F:Option (br)→Prop) (a:br):cs (some a) F=F (some a):=rfl
theorem aqQ (F:Option (gu)→Prop):cs none F=F none:=rfl
theorem aqR (F:Option (gu)→Prop) (a:gu):cs (some a) F=F (some a):=rfl
theorem aqS (F:Option (BC×Nat)→Prop):cs none F=F none:=rfl
theorem aqT (F:Option (BC×Nat)→Prop) (a:BC×Nat):cs (some a) F=F (some a):=rfl
theorem aqU (F:Option (List Nat)→Prop):cs none F=F none:=rfl
theorem aqV (F:Option (List Nat)→Prop) (a:List Nat):cs (some a) F=F (some a):=rfl
theorem aqW (F:Option (List ag×List BC)→Prop):cs none F=F none:=rfl
theorem aqX (F:Option (List ag×List BC)→Prop) (a:List ag×List BC):cs (some a) F=F (some a):=rfl
theorem aqY (F:Option (List BC×D)→Prop):cs none F=F none:=rfl
theorem aqZ (F:Option (List BC×D)→Prop) (a:List BC×D):cs (some a) F=F (some a):=rfl
theorem aq0 (F:Option (Nat×Option (Nat×Nat×Bool))→Prop):cs none F=F none:=rfl
theorem aq1 (F:Option (Nat×Option (Nat×Nat×Bool))→Prop) (a:Nat×Option (Nat×Nat×Bool)):cs (some a) F=F (some a):=rfl
theorem aq2 (F:Option (List Int)→Prop):cs none F=F none:=rfl
theorem aq3 (F:Option (List Int)→Prop) (a:List Int):cs (some a) F=F (some a):=rfl
theorem apc (F:List ag→Prop):cs [] F=F []:=rfl
theorem anG (F:List ag→Prop) (a:ag) (l:List ag):cs (a::l) F=F (a::l):=rfl
def al:=And.intro @anw<|And.intro @anr<|And.intro @arY<|And.intro @arZ<|And.intro @aqm<|And.intro @aoO<|And.intro @aqn<|And.intro @aoU<|And.intro @aoV<|And.intro @aoW<|And.intro @aoX<|And.intro @anz<|And.intro @ar6<|And.intro @ar7<|And.intro @ao1<|And.intro @aqv<|And.intro @anB<|And.intro @arO<|And.intro @anq<|And.intro @anp<|And.intro @aoD<|And.intro @aq0<|And.intro @aq1<|And.intro @aq2<|And.intro @aq3<|And.intro @IF<|And.intro @ap3<|And.intro @RS<|And.intro @So<|And.intro @aqd<|And.intro @ka<|And.intro @aow<|And.intro @ap4<|And.intro @anh<|And.intro @asQ<|And.intro @arP<|And.intro @ani<|And.intro @arQ<|And.intro @aqe<|And.intro @asP<|And.intro @ap5<|And.intro @ap6<|And.intro @ap7<|And.intro @ap8<|And.intro @ap9<|And.intro @aqa<|And.intro @aqb<|And.intro @aox<|And.intro @anj<|And.intro @aoy<|And.intro @ank<|And.intro @aoz<|And.intro @anl<|And.intro @anm<|And.intro @ann<|And.intro @aoA<|And.intro @aoB<|And.intro @aoC<|And.intro @aqc<|And.intro @al3<|And.intro @ano<|And.intro @asR<|And.intro @aqf<|And.intro @aqg<|And.intro @aoE<|And.intro @aoF<|And.intro @aoG<|And.intro @aoH<|And.intro @arR<|And.intro @aqh<|And.intro @arS<|And.intro @asS<|And.intro @aqi<|And.intro @aoI<|And.intro @aoJ<|And.intro @arT<|And.intro @aoK<|And.intro @aoL<|And.intro @arU<|And.intro @aqj<|And.intro @arV<|And.intro @asT<|And.intro @asU<|And.intro @arW<|And.intro @aoM<|And.intro @arX<|And.intro @aqk<|And.intro @aql<|And.intro @aoN<|And.intro @ar0<|And.intro @ar1<|And.intro @aoP<|And.intro @ar2<|And.intro @aoQ<|And.intro @ar3<|And.intro @aqp<|And.intro @al6<|And.intro @al7<|And.intro @anD<|And.intro @anE<|And.intro @al8<|And.intro @aoY<|And.intro @aqq<|And.intro @aqr<|And.intro @aoR<|And.intro @ans<|And.intro @aoS<|And.intro @aoT<|And.intro @ant<|And.intro @anu<|And.intro @anv<|And.intro @aoZ<|And.intro @anx<|And.intro @aqo<|And.intro @asV<|And.intro @aqs<|And.intro @aqt<|And.intro @ao0<|And.intro @ar4<|And.intro @aqu<|And.intro @ar5<|And.intro @asW<|And.intro @aqw<|And.intro @ao2<|And.intro @ao3<|And.intro @ar8<|And.intro @ao4<|And.intro @ao5<|And.intro @ar9<|And.intro @aqx<|And.intro @asa<|And.intro @asX<|And.intro @asY<|And.intro @asb<|And.intro @ao6<|And.intro @asc<|And.intro @aqy<|And.intro @aqz<|And.intro @aqA<|And.intro @anA<|And.intro @aqB<|And.intro @anC<|And.intro @aqC<|And.intro @gx<|And.intro @aqD<|And.intro @aqE<|And.intro @aqF<|And.intro @ao7<|And.intro @Z3<|And.intro @anF<|And.intro @Jt.eq_def<|And.intro @zF.eq_def<|And.intro @tG.eq_def<|And.intro @bound.eq_def<|And.intro @E7.eq_def<|And.intro @arith.eq_def<|And.intro @E8.eq_def<|And.intro @vH.eq_def<|And.intro @tH.eq_def<|And.intro @Jl.eq_def<|And.intro @aaw<|And.intro @ZZ<|And.intro @Z0<|And.intro @Z1<|And.intro @Y9<|And.intro @Za<|And.intro @Yt<|And.intro @Yu<|And.intro @XT<|And.intro @aax<|And.intro @Z2<|And.intro @aay<|And.intro @aaz<|And.intro @aqG<|And.intro @aqH<|And.intro @aqI<|And.intro @aqJ<|And.intro @asd<|And.intro @ase<|And.intro @aqK<|And.intro @aqL<|And.intro @aqM<|And.intro @aqN<|And.intro @ao8<|And.intro @ao9<|And.intro @apa<|And.intro @apb<|And.intro @aqO<|And.intro @aqP<|And.intro @aqQ<|And.intro @aqR<|And.intro @aqS<|And.intro @aqT<|And.intro @aqU<|And.intro @aqV<|And.intro @aqW<|And.intro @aqX<|And.intro @aqY<|And.intro @aqZ<|And.intro @apc<| @anG
def auQ:=And.intro @ag.key.eq_def<|And.intro @ag.yz.eq_def<|And.intro @tC.eq_def<|And.intro @ag.pair.eq_def<|And.intro @p2.eq_def<|And.intro @dM.sz.eq_def<|And.intro @cm.kill.eq_def<|And.intro @BC.kill.eq_def<|And.intro @ag.cells.eq_def<|And.intro @tv.eq_def<|And.intro @u2.eq_def<|And.intro @E9.eq_def<|And.intro @EV.eq_def<|And.intro @tu.eq_def<|And.intro @lV.eq_def<|And.intro @BC.count.eq_def<|And.intro @BC.part.eq_def<|And.intro @ag.NP.eq_def<|And.intro @CX.eq_def<|And.intro @BC.pure.eq_def<|And.intro @BC.tidy.eq_def<|And.intro @BC.eh.eq_def<|And.intro @reach.eq_def<|And.intro @Be.eq_def<|And.intro @bx.makes.eq_def<|And.intro @Ez.eq_def<|And.intro @bx.ops.eq_def<|And.intro @asSlice.eq_def<|And.intro @cr.eq_def<|And.intro @Ju.eq_def<|And.intro @c3.eq_def<|And.intro @jr.eq_def<|And.intro @D.emp.eq_def<|And.intro @D.NQ.eq_def<|And.intro @Em.eq_def<| @over.eq_def
def auR:=And.intro @al4<|And.intro @al5<|And.intro @yB.eq_1<|And.intro @yB.eq_2<|And.intro @ag.has.eq_7<|And.intro @pR.eq_7<|And.intro @ag.tidy.eq_6<|And.intro @ag.ids.eq_7<|And.intro @ag.eh.eq_7<|And.intro @kd.eq_7<|And.intro @sk.eq_1<|And.intro @sk.eq_2<|And.intro @sk.eq_3<|And.intro @q1.eq_1<|And.intro @q1.eq_2<|And.intro @q1.eq_3<|And.intro @u9.eq_1<|And.intro @u9.eq_2<|And.intro @ag.has.eq_1<|And.intro @ag.has.eq_2<|And.intro @ag.has.eq_3<|And.intro @ag.has.eq_4<|And.intro @ag.has.eq_5<|And.intro @ag.has.eq_6<|And.intro @ag.df.eq_1<|And.intro @ag.df.eq_2<|And.intro @u1.eq_1<|And.intro @u1.eq_2<|And.intro @yu.eq_1<|And.intro @yu.eq_2<|And.intro @q6.eq_1<|And.intro @q6.eq_2<|And.intro @pR.eq_1<|And.intro @pR.eq_2<|And.intro @pR.eq_3<|And.intro @pR.eq_4<|And.intro @pR.eq_5<|And.intro @pR.eq_6<|And.intro @yo.eq_1<|And.intro @yo.eq_2<|And.intro @ag.pure.eq_1<|And.intro @ag.pure.eq_2<|And.intro @ag.pure.eq_3<|And.intro @ag.pure.eq_4<|And.intro @ag.g8.eq_1<|And.intro @ag.g8.eq_2<|And.intro @ag.tidy.eq_1<|And.intro @ag.tidy.eq_2<|And.intro @ag.tidy.eq_3<|And.intro @ag.tidy.eq_4<|And.intro @ag.tidy.eq_5<|And.intro @ag.ij.eq_1<|And.intro @ag.ij.eq_2<|And.intro @contents.eq_1<|And.intro @contents.eq_2<|And.intro @iD.eq_1<|And.intro @iD.eq_2<|And.intro @distinct.eq_1<|And.intro @distinct.eq_2<|And.intro @ag.ids.eq_1<|And.intro @ag.ids.eq_2<|And.intro @ag.ids.eq_3<|And.intro @ag.ids.eq_4<|And.intro @ag.ids.eq_5<|And.intro @ag.ids.eq_6<|And.intro @ag.jb.eq_1<|And.intro @ag.jb.eq_2<|And.intro @ag.eh.eq_1<|And.intro @ag.eh.eq_2<|And.intro @ag.eh.eq_3<|And.intro @ag.eh.eq_4<|And.intro @ag.eh.eq_5<|And.intro @ag.eh.eq_6<|And.intro @ag.g1.eq_1<|And.intro @ag.g1.eq_2<|And.intro @placeOf.eq_1<|And.intro @placeOf.eq_2<|And.intro @pT.eq_1<|And.intro @pT.eq_2<|And.intro @D.flat.eq_1<|And.intro @D.flat.eq_2<|And.intro @D.flat.eq_3<|And.intro @D.flat.eq_4<|And.intro @D.flat.eq_5<|And.intro @D.flat.eq_6<|And.intro @D.CR.eq_1<|And.intro @D.CR.eq_2<|And.intro @l6.eq_1<|And.intro @l6.eq_2<|And.intro @kd.eq_1<|And.intro @kd.eq_2<|And.intro @kd.eq_3<|And.intro @kd.eq_4<|And.intro @kd.eq_5<|And.intro @kd.eq_6<|And.intro @Bd.eq_1<|And.intro @Bd.eq_2<|And.intro @yl.eq_1<|And.intro @yl.eq_2<|And.intro @yl.eq_3<|And.intro @ym.eq_1<|And.intro @ym.eq_2<|And.intro @ym.eq_3<|And.intro @oP.eq_1<|And.intro @oP.eq_2<|And.intro @oP.eq_3<|And.intro @toD.eq_1<|And.intro @toD.eq_2<|And.intro @toD.eq_3<|And.intro @toD.eq_4<|And.intro @toD.eq_5<|And.intro @toD.eq_6<|And.intro @toDs.eq_1<| @toDs.eq_2
def auS:=And.intro @aou<|And.intro @al1<|And.intro @al2<|And.intro @am7<|And.intro @aov<|And.intro @amX<|And.intro @alV<|And.intro @amY<|And.intro @alW<|And.intro @alX<|And.intro @alY<|And.intro @amZ<|And.intro @aot<|And.intro @ak4<|And.intro @alZ<|And.intro @am0<|And.intro @am1<|And.intro @al0<|And.intro @am2<|And.intro @am3<|And.intro @am4<|And.intro @am5<|And.intro @am6<|And.intro @am8<|And.intro @ap2<|And.intro @am9<|And.intro @ana<|And.intro @anb<|And.intro @anc<|And.intro @ane<|And.intro @anf<|And.intro @ang<|And.intro @List.getElem?_cons_zero.{0} <|And.intro @List.getElem?_cons_succ.{0} <|And.intro @List.getElem?_nil.{0} <|And.intro @true_or<|And.intro @or_true<|And.intro @false_or<|And.intro @or_false<|And.intro @true_and<|And.intro @and_true<|And.intro @false_and<|And.intro @and_false<|And.intro @Nat.sub_self<|And.intro @Option.map_some.{0,0} <|And.intro @Option.map_none.{0,0} <|And.intro @Nat.le_refl<|And.intro @List.length_cons.{0} <|And.intro @List.length_nil.{0} <|And.intro @List.all_cons.{0} <|And.intro @List.all_nil.{0} <|And.intro @Bool.and_true<|And.intro @Bool.true_and<|And.intro @Bool.and_false<|And.intro @Bool.false_and<|And.intro @Bool.or_true<|And.intro @Bool.or_false<|And.intro @Bool.true_or<|And.intro @Bool.false_or<|And.intro @Bool.not_true<|And.intro @Bool.not_false<|And.intro @Bool.false_eq_true<|And.intro @List.take_zero.{0} <|And.intro @List.drop_zero.{0} <|And.intro @List.take_succ_cons.{0} <|And.intro @List.drop_succ_cons.{0} <|And.intro @List.drop_nil.{0} <|And.intro @List.take_nil.{0} <|And.intro @List.nil_append.{0} <|And.intro @List.append_nil.{0} <|And.intro @List.cons_append.{0} <|And.intro @List.map_cons.{0,0} <|And.intro @List.map_nil.{0,0} <|And.intro @Nat.zero_add<|And.intro @Nat.add_zero<|And.intro @List.filter_nil.{0} <|And.intro @List.filter_cons.{0} <|And.intro @Nat.min_def<|And.intro @eq_self.{1} <|And.intro @forall_const.{1} <|And.intro @false_implies<|And.intro @implies_true.{1} <|And.intro @not_false_eq_true<|And.intro @ne_eq.{1} <|And.intro @not_true_eq_false<|And.intro @bne_self_eq_false.{0} <|And.intro @beq_self_eq_true.{0} <|And.intro @List.length_replicate.{0} <|And.intro @List.set_cons_zero.{0} <|And.intro @List.set_cons_succ.{0} <|And.intro @true_implies<|And.intro @decide_eq_true_eq<|And.intro @decide_eq_false_iff_not<|And.intro @Int.toNat_natCast<|And.intro @ag.d.injEq<|And.intro @D.int.injEq<|And.intro @D.bool.injEq<|And.intro @D.flt.injEq<|And.intro @D.ints.injEq<|And.intro @List.head?_cons.{0} <|And.intro @List.head?_nil.{0} <| @List.append_assoc.{0}
theorem ak5:IntKind.bits .i64=64:=rfl
theorem ak6:IntKind.bits .u64=64:=rfl
theorem al9:IntKind.bits .u8=8:=rfl
theorem ak7:IntKind.bits .i16=16:=rfl
theorem ak8:IntKind.bits .u16=16:=rfl
theorem ak9:IntKind.bits .i32=32:=rfl
theorem ala:IntKind.bits .u32=32:=rfl
theorem ama:IntKind.bits .i8=8:=rfl
def auT:=And.intro ak5<|And.intro ak6<|And.intro al9<|And.intro ak7<|And.intro ak8<|And.intro ak9<|And.intro ala<|ama
def dy:=And.intro @List.flatMap_cons.{0,0} <|And.intro @List.flatMap_nil.{0,0} <|And.intro @List.append_nil.{0} <|And.intro @List.nil_append.{0} <|And.intro @List.cons_append.{0} <|And.intro @List.filter_cons.{0} <|And.intro @List.filter_nil.{0} <|And.intro @List.contains_cons.{0} <|And.intro @List.contains_nil.{0} <|And.intro @bne_self_eq_false.{0} <|And.intro @beq_self_eq_true.{0} <|And.intro @List.map_cons.{0,0} <| @List.map_nil.{0,0}
end RV
namespace RV
def au (n:Nat):List Int:=if h:n=0 then []else ((n % 16777216:Nat):Int)::au (n / 16777216)
termination_by n
decreasing_by exact Nat.div_lt_self (Nat.pos_of_ne_zero h) (by decide)
def val:List Int→Nat
 |[]=>0
 |x::xs=>x.toNat+16777216*val xs
def ch (xs:List Int):Prop:=∀x∈xs,0≤x∧x<16777216
theorem hv:au 0=[]:=by unfold au;simp
theorem zx {n:Nat} (h:n≠0):au n=((n % 16777216:Nat):Int)::au (n / 16777216):=by
 conv=>lhs;unfold au
 rw[dif_neg h]
theorem bT (n:Nat):val (au n)=n:=by
 induction n using Nat.strongRecOn with
 |_ n cJ=>
  by_cases h:n=0
  ·subst h;rw[hv];rfl
  ·rw[zx h,val,cJ (n / 16777216) (Nat.div_lt_self (Nat.pos_of_ne_zero h) (by decide))]
   omega
theorem c4 (n:Nat):ch (au n):=by
 induction n using Nat.strongRecOn with
 |_ n cJ=>
  by_cases h:n=0
  ·subst h;rw[hv];intro x aj;cases aj
  ·rw[zx h]
   intro x aj
   rcases List.mem_cons.1 aj with rfl|aj
   ·omega
   ·exact cJ (n / 16777216) (Nat.div_lt_self (Nat.pos_of_ne_zero h) (by decide)) x aj
theorem Yv {n:Nat} (h:au n=[]):n=0:=by
 have:=bT n
 rw[h]at this
 exact this.symm
theorem ch.tail {x:Int} {xs:List Int} (h:ch (x::xs)):ch xs:=fun y hy=>h y (List.mem_cons_of_mem _ hy)
theorem ch.head {x:Int} {xs:List Int} (h:ch (x::xs)):0≤x∧x<16777216:=h x (by simp)
theorem ch.append {xs aC:List Int} (h:ch xs) (k:ch aC):ch (xs++aC):=fun x aj=>(List.mem_append.1 aj).elim (h x) (k x)
theorem ch.take {xs:List Int} (h:ch xs) (n:Nat):ch (xs.take n):=fun x aj=>h x (List.mem_of_mem_take aj)
theorem ch.drop {xs:List Int} (h:ch xs) (n:Nat):ch (xs.drop n):=fun x aj=>h x (List.mem_of_mem_drop aj)
theorem ch.get {xs:List Int} (h:ch xs) {i:Nat} (hi:i<xs.length):0≤xs.getD i 0∧xs.getD i 0<16777216:=by
 rw[List.getD_eq_getElem?_getD,List.getElem?_eq_getElem hi]
 exact h _ (List.getElem_mem hi)
theorem Ms:∀(xs aC:List Int),val (xs++aC)=val xs+16777216^xs.length*val aC
 |[],aC=>by simp[val]
 |x::xs,aC=>by
  rw[List.cons_append,val,val,Ms xs aC,List.length_cons,Nat.pow_succ]
  rw[Nat.mul_add,Nat.add_assoc,Nat.mul_assoc,Nat.mul_left_comm]
theorem k6:∀{xs:List Int},ch xs→val xs<16777216^xs.length
 |[],_=>by simp[val]
 |x::xs,h=>by
  have:=k6 h.tail
  have:=h.head
  rw[val,List.length_cons,Nat.pow_succ]
  omega
theorem Yw:∀{xs:List Int},ch xs→(∀x,xs.getLast? =some x→x≠0)→au (val xs)=xs
 |[],_,_=>hv
 |[x],h,aH=>by
  have:=h.head
  have:=aH x rfl
  rw[val,val]
  rw[zx (by omega)]
  have h1:(x.toNat+16777216*0) / 16777216=0:=by omega
  have h2:(((x.toNat+16777216*0) % 16777216:Nat):Int)=x:=by omega
  rw[h1,h2,hv]
 |x::y::aC,h,aH=>by
  have cJ:=Yw h.tail (fun z bp=>aH z (by simpa [List.getLast?_cons_cons]using bp))
  have aj:=h.head
  have eB:val (y::aC)≠0:=fun e=>by rw[e,hv]at cJ;cases cJ
  rw[val,zx (by omega)]
  have h1:(x.toNat+16777216*val (y::aC)) / 16777216=val (y::aC):=by omega
  have h2:(((x.toNat+16777216*val (y::aC)) % 16777216:Nat):Int)=x:=by omega
  rw[h1,h2,cJ]
theorem alb {n:Nat} :∀x,(au n).getLast? =some x→x≠0:=by
 induction n using Nat.strongRecOn with
 |_ n cJ=>
  intro x aj
  by_cases h:n=0
  ·subst h;rw[hv]at aj;cases aj
  ·rw[zx h]at aj
   by_cases h2:n / 16777216=0
   ·rw[h2,hv]at aj
    simp only[List.getLast?_singleton,Option.some.injEq]at aj
    omega
   ·have ay:au (n / 16777216)≠[]:=fun e=>h2 (Yv e)
    cases aH:au (n / 16777216)with
    |nil=>exact absurd aH ay
    |cons y aC=>
     rw[aH,List.getLast?_cons_cons]at aj
     exact cJ (n / 16777216) (Nat.div_lt_self (Nat.pos_of_ne_zero h) (by decide)) x (by rw[aH];exact aj)
theorem Ek:∀(k:Nat),val (List.replicate k 0)=0
 |0=>rfl
 |k+1=>by rw[List.replicate_succ,val,Ek k];rfl
theorem ajI (xs:List Int):val (xs++[0])=val xs:=by rw[Ms];simp[val]
theorem Mt {xs:List Int} (h:ch xs) {n:Nat} (aB:val (xs.take n)=val xs) (aH:n=0∨(n≤xs.length∧xs.getD (n - 1) 0≠0)):xs.take n=au (val xs):=by
 rw[←aB]
 refine(Yw (h.take n) fun x aj=> ?_).symm
 rcases aH with rfl|⟨aJ,eB⟩
 ·simp at aj
 ·by_cases h0:n=0
  ·subst h0;simp at aj
  ·rw[List.getLast?_take,if_neg h0]at aj
   have bl:n - 1<xs.length:=by omega
   rw[List.getD_eq_getElem?_getD,List.getElem?_eq_getElem bl]at eB
   rw[List.getElem?_eq_getElem bl]at aj
   simp only[Option.some_or,Option.some.injEq,Option.getD_some]at aj eB
   subst aj
   simpa using eB
theorem W5 {xs:List Int} {n:Nat} (aJ:n<xs.length) (h0:xs.getD n 0=0):val (xs.take (n+1))=val (xs.take n):=by
 rw[List.take_add_one,List.getElem?_eq_getElem aJ]
 rw[List.getD_eq_getElem?_getD,List.getElem?_eq_getElem aJ]at h0
 simp only[Option.getD_some]at h0
 rw[h0]
 exact ajI _
theorem AY (xs:List Int) (x:Int):val (xs++[x])=val xs+16777216^xs.length*x.toNat:=by
 rw[Ms];simp[val]
theorem qQ (xs:List Int) (k:Nat):val (xs.drop k)=(xs.getD k 0).toNat+16777216*val (xs.drop (k+1)):=by
 rcases Nat.lt_or_ge k xs.length with h|h
 ·rw[List.drop_eq_getElem_cons h,val,List.getD_eq_getElem?_getD,List.getElem?_eq_getElem h];rfl
 ·rw[List.drop_of_length_le h,List.drop_of_length_le (by omega),List.getD_eq_getElem?_getD,List.getElem?_eq_none h];rfl
theorem ch.getD {xs:List Int} (h:ch xs) (i:Nat):0≤xs.getD i 0∧xs.getD i 0<16777216:=by
 rcases Nat.lt_or_ge i xs.length with hi|hi
 ·exact h.get hi
 ·rw[List.getD_eq_getElem?_getD,List.getElem?_eq_none hi];simp
theorem ch.snoc {xs:List Int} {x:Int} (h:ch xs) (h0:0≤x) (h1:x<16777216):ch (xs++[x]):=h.append fun y hy=>by
 rcases List.mem_singleton.1 hy with rfl;exact⟨h0,h1⟩
theorem XU {out:List Int} {T r r':Nat} {s:Int} (h0:0≤s) (aB:val out+16777216^out.length*r=T) (ar:r=s.toNat+16777216*r'):
 val (out++[s.tmod 16777216])+16777216^(out.length+1)*((s.tdiv 16777216).toNat+r')=T:=by
 rw[AY,Nat.pow_succ,←aB,ar,Nat.mul_assoc,Nat.add_assoc,←Nat.mul_add]
 congr 2
 rw[Int.tmod_eq_emod_of_nonneg h0,Int.tdiv_eq_ediv_of_nonneg h0]
 omega
theorem x2 {n:Nat} (h:n≠0):0<(au n).length:=by rw[zx h];simp
theorem Zc {n:Nat} (h:n≠0):16777216^((au n).length - 1)≤n:=by
 induction n using Nat.strongRecOn with
 |_ n cJ=>
  rw[zx h,List.length_cons,Nat.add_sub_cancel]
  by_cases h2:n / 16777216=0
  ·rw[h2,hv];simp;omega
  ·have:=cJ (n / 16777216) (Nat.div_lt_self (Nat.pos_of_ne_zero h) (by decide)) h2
   have aQ:=x2 h2
   rw[show (au (n / 16777216)).length=(au (n / 16777216)).length - 1+1 by omega,Nat.pow_succ]
   omega
theorem Ru (n:Nat):n<16777216^(au n).length:=by
 have:=k6 (c4 n)
 rwa [bT]at this
theorem Il {a b:Nat} (h:(au a).length<(au b).length):a<b:=by
 have aw:b≠0:=fun e=>by subst e;rw[hv]at h;simp at h
 have h1:=Ru a
 have h2:=Zc aw
 have aq:16777216^(au a).length≤16777216^((au b).length - 1):=Nat.pow_le_pow_right (by decide) (by omega)
 omega
theorem Im (xs:List Int) (i:Nat) (hi:i≤xs.length):val xs=val (xs.take i)+16777216^i*val (xs.drop i):=by
 have:=Ms (xs.take i) (xs.drop i)
 rw[List.take_append_drop,List.length_take,Nat.min_eq_left hi]at this
 exact this
theorem MI {xs aC:List Int} (aj:ch xs) (hy:ch aC) {i:Nat} (h1:i<xs.length) (h2:i<aC.length) (aD:xs.drop (i+1)=aC.drop (i+1)) (bl:xs.getD i 0<aC.getD i 0):val xs<val aC:=by
 rw[Im xs i (by omega),Im aC i (by omega),qQ xs i,qQ aC i,aD]
 have a6:=k6 (aj.take i)
 rw[List.length_take,Nat.min_eq_left (by omega)]at a6
 have gb:=aj.getD i
 have jY:=hy.getD i
 have hle:(xs.getD i 0).toNat+16777216*val (aC.drop (i+1))+1≤(aC.getD i 0).toNat+16777216*val (aC.drop (i+1)):=by omega
 have:=Nat.mul_le_mul_left (16777216^i) hle
 rw[Nat.mul_add,Nat.mul_one]at this
 omega
theorem x7 {n k:Nat} (h:n<16777216^k):(au n).length≤k:=by
 rcases Nat.lt_or_ge k (au n).length with aH|aH
 ·exfalso
  have h0:n≠0:=fun e=>by subst e;rw[hv]at aH;simp at aH
  have h1:=Zc h0
  have h2:16777216^k≤16777216^((au n).length - 1):=Nat.pow_le_pow_right (by decide) (by omega)
  omega
 ·exact aH
theorem Xw {out xs aC:List Int} {T c c':Nat} {d:Int} (aj:ch xs) (hy:ch aC) (O0:0≤d) (aD:xs.getD out.length 0+16777216*(c':Int)=d+aC.getD out.length 0+c)
 (aB:val out+16777216^out.length*val (xs.drop out.length)=T+16777216^out.length*(c+val (aC.drop out.length))):
 val (out++[d])+16777216^(out.length+1)*val (xs.drop (out.length+1))=T+16777216^(out.length+1)*(c'+val (aC.drop (out.length+1))):=by
 have gb:=aj.getD out.length
 have jY:=hy.getD out.length
 rw[qQ xs,qQ aC]at aB
 rw[AY,Nat.pow_succ]
 generalize val (xs.drop (out.length+1))=X at*
 generalize val (aC.drop (out.length+1))=Y at*
 generalize 16777216^out.length=p at*
 generalize val out=o at*
 have aJ:(xs.getD out.length 0).toNat+16777216*c'=d.toNat+(aC.getD out.length 0).toNat+c:=by omega
 generalize (xs.getD out.length 0).toNat=x at*
 generalize (aC.getD out.length 0).toNat=y at*
 generalize d.toNat=e at*
 have h2:p*(x+16777216*c')=p*(e+y+c):=by rw[aJ]
 simp only[Nat.mul_add]at aB h2⊢
 rw[Nat.mul_assoc p,Nat.mul_assoc p,Nat.mul_assoc p]
 omega
theorem Nc:∀{xs:List Int} {j:Nat},j<xs.length→∀x:Int,val (xs.set j x)+16777216^j*(xs.getD j 0).toNat=val xs+16777216^j*x.toNat
 |[],_,h,_=>by simp at h
 |y::aC,0,_,x=>by simp[val];omega
 |y::aC,j+1,h,x=>by
  have cJ:=Nc (xs:=aC) (j:=j) (by simpa using h) x
  rw[List.set_cons_succ,val,val,List.getD_cons_succ,Nat.pow_succ]
  generalize val (aC.set j x)=A at*
  generalize val aC=C at*
  generalize 16777216^j=p at*
  rw[Nat.mul_right_comm p 16777216 (aC.getD j 0).toNat,Nat.mul_right_comm p 16777216 x.toNat]
  omega
theorem ch.set {xs:List Int} (h:ch xs) (j:Nat) {x:Int} (h0:0≤x) (h1:x<16777216):ch (xs.set j x):=fun y hy=>by
 rcases List.mem_or_eq_of_mem_set hy with hy|rfl
 ·exact h y hy
 ·exact⟨h0,h1⟩
theorem Zd {out:List Int} {j c x y:Nat} {s:Int} (aH:ch out) (aF:j<out.length) (aE:s=out.getD j 0+(x*y:Nat)+c):
 val (out.set j (s.tmod 16777216))+16777216^(j+1)*(s.tdiv 16777216).toNat=val out+16777216^j*(c+x*y):=by
 have bz:=aH.getD j
 have h0:0≤s:=by omega
 have aB:=Nc aF (s.tmod 16777216)
 have auU:s.toNat=(out.getD j 0).toNat+x*y+c:=by omega
 have KG:(s.tmod 16777216).toNat+16777216*(s.tdiv 16777216).toNat=s.toNat:=by
  rw[Int.tmod_eq_emod_of_nonneg h0,Int.tdiv_eq_ediv_of_nonneg h0];omega
 rw[Nat.pow_succ]
 generalize val (out.set j (s.tmod 16777216))=A at*
 generalize (out.getD j 0).toNat=o at*
 generalize (s.tmod 16777216).toNat=m at*
 generalize (s.tdiv 16777216).toNat=d at*
 generalize x*y=z at*
 generalize val out=C at*
 generalize 16777216^j=p at*
 have h2:p*(m+16777216*d)=p*(o+z+c):=by rw[KG,auU]
 simp only[Nat.mul_add]at h2⊢
 rw[Nat.mul_assoc]
 omega
theorem Yx {x y c o:Nat} (aj:x<16777216) (hy:y<16777216) (ay:c<16777216) (bz:o<16777216):o+x*y+c<16777216*16777216:=by
 have:x*y≤16777215*16777215:=Nat.mul_le_mul (by omega) (by omega)
 omega
theorem D5 {xs:List Int} {k:Nat} (h:k<xs.length):val (xs.take (k+1))=val (xs.take k)+16777216^k*(xs.getD k 0).toNat:=by
 rw[List.take_add_one,List.getElem?_eq_getElem h,List.getD_eq_getElem?_getD,List.getElem?_eq_getElem h]
 show val (xs.take k++[xs[k]])=_
 rw[AY,List.length_take,Nat.min_eq_left (Nat.le_of_lt h)]
 rfl
theorem x1 {xs:List Int} {i j:Nat} (h:i≠j) (x:Int):(xs.set i x).getD j 0=xs.getD j 0:=by
 rw[List.getD_eq_getElem?_getD,List.getD_eq_getElem?_getD,List.getElem?_set_ne h]
end RV
namespace RV
open Go Go.RowKit
def hR (r:Option Nat):Fence:= { Fence.wide with round:=r }
def fY (a:Act) (ds:List Deferred):Act:= { a with defers:=a.defers++ds }
theorem zy (a:Act):fY a []=a:=by simp[fY]
theorem QR (a:Act) (ds:List Deferred):(fY a ds).eval=a.eval:=by funext x;cases x<;>rfl
theorem Cw (a:Act) (ds:List Deferred) (d:Option Tmp) (v:Value):(fY a ds).put d v=fY (a.put d v) ds:=by cases d<;>rfl
def k9 (T:Nat→Bool) (av:Nat→Value) (a:Act):Prop:=∀t,T t=true→a.tmps.getD t undef=av t
theorem k9.put {T:Nat→Bool} {av:Nat→Value} {a:Act} (h:k9 T av a) {d:Option Nat} (aD:∀x,d=some x→T x=false) (v:Value):k9 T av (a.put d v):=by
 cases d with
 |none=>exact h
 |some d=>
  intro t ae
  have eB:d≠t:=fun e=>by subst e;rw[aD d rfl]at ae;cases ae
  have:=h t ae
  simp only[Act.put]
  rw[Array.getD_eq_getD_getElem?,Array.getElem?_setIfInBounds_ne eB,←Array.getD_eq_getD_getElem?]
  exact this
theorem k9.congr {T:Nat→Bool} {av:Nat→Value} {a b:Act} (h:k9 T av a) (e:b.tmps=a.tmps):k9 T av b:=fun t ae=>by rw[e];exact h t ae
section
variable {r:Option Nat} {n:Nat} {P:Program} {ops:Array Oper} {Q Q':Exit→Act→World→Prop} {ds:List Deferred} {T:Nat→Bool} {av:Nat→Value}
theorem Ze {f:FuncId} {args:Array Value} {w:World} {R:Ending→World→Prop} (h:Calls P f args w R):CallsIn (hR r) n P f args w R:=
 (callsIn_wide (n:=n)).2 h
theorem apd {row:String} {args:Array Value} {w:World} {R:Value→World→Prop} (h:Rows P row args w R):RowsIn (hR r) n P row args w R:=fun c cs _=>
 let ⟨v,w',h1,h2⟩:=h c cs
 ⟨v,w',h1,stepsIn_wide.2 h2⟩
theorem Nd {o:Oper} (jy:∀c,o.op≠ .defer c) {a:Act} {w:World} {next next':Act→World→Prop} (fZ:¬LetsOut Q) (h:o.wp P a w next Q)
 (aJ:∀b7 w' v ms,b7= { a with defers:=ms }.put o.dst v→next b7 w'→next' (fY b7 ds) w') (aQ:∀As w',Q (.panic As) a w'→Q' (.panic As) (fY a ds) w'):
 o.wpIn (hR r) n P (fY a ds) w next' Q':=by
 refine⟨fun _ _=>trivial,?_⟩
 rw[Oper.semAt_eq _ _ _ jy,QR]
 unfold Oper.wp at h
 generalize (execOp a.eval o).run P w=res at h
 cases res with
 |ok x w'=>
  cases x<;>simp only[Oper.upon]at h<;>simp only[Oper.uponIn]
  case value v=>rw[Cw];exact aJ _ _ v a.defers rfl h
  case skip=>rw[Cw];exact aJ _ _ undef a.defers rfl h
  case defer d=>
   have:=aJ _ _ undef (d::a.defers) rfl h
   rw[←Cw]at this
   exact this
  case enter f args=>
   refine⟨fun aD=>by simp[hR,Fence.wide]at aD,(Ze h).mono fun e auV he=> ?_⟩
   cases e with
   |returned v=>simp only at he⊢;rw[Cw];exact aJ _ _ v a.defers rfl he
   |panicked As=>exact aQ _ _ he
   |outgrown=>exact absurd he fZ
  case row row args=>
   refine⟨fun aD=>by simp[hR,Fence.wide]at aD,(apd h).mono fun v auV he=> ?_⟩
   rw[Cw];exact aJ _ _ v a.defers rfl he
 |halt x w'=>
  cases x<;>simp only[Oper.upon]at h<;>simp only[Oper.uponIn]
  case panic v=>exact aQ _ _ h
theorem MX (jy:∀(i:Nat) (o:Oper),ops[i]? =some o→∀c,o.op≠ .defer c) (cy:∀(i:Nat) (o:Oper) (d:Nat),ops[i]? =some o→o.dst=some d→T d=false) (fZ:¬LetsOut Q)
 (cw:∀e b7 w',k9 T av b7→Q e b7 w'→Q' e (fY b7 ds) w'):∀(is:List Nat) (a:Act) (w:World),k9 T av a→wpOps P ops Q is a w→wpOpsIn (hR r) n P ops Q' is (fY a ds) w
 |[],a,w,ad,h=>cw _ _ _ ad h
 |i::is,a,w,ad,h=>by
  simp only[wpOps]at h
  simp only[wpOpsIn]
  cases bz:ops[i]? with
  |none=>rw[bz]at h;exact MX jy cy fZ cw is a w ad h
  |some o=>
   rw[bz]at h
   simp only at h⊢
   have aD:∀x,o.dst=some x→T x=false:=fun x aj=>cy i o x bz aj
   by_cases hw:Region.wanted o (yielded ops a.tmps)=true
   ·rw[if_pos hw]at h
    rw[if_pos (show Region.wanted o (yielded ops (fY a ds).tmps)=true from hw)]
    rcases h with h|h
    ·refine Nd (jy i o bz) fZ h (fun b7 w' v ms e et=>MX jy cy fZ cw is b7 w' ?_ et) (fun As w' et=>cw _ _ _ ad et)
     subst e
     exact(ad.congr (b:= { a with defers:=ms }) rfl).put aD v
    ·exact absurd h.2 fZ
   ·rw[if_neg hw]at h
    rw[if_neg (show¬Region.wanted o (yielded ops (fY a ds).tmps)=true from hw)]
    refine⟨fun _ _=>trivial,?_⟩
    rw[Cw]
    exact MX jy cy fZ cw is _ w (ad.put aD undef) h
theorem MY {md:Region.Mode} (jy:∀(i:Nat) (o:Oper),ops[i]? =some o→∀c,o.op≠ .defer c) (cy:∀(i:Nat) (o:Oper) (d:Nat),ops[i]? =some o→o.dst=some d→T d=false) (fZ:¬LetsOut Q)
 (cw:∀e b7 w',k9 T av b7→Q e b7 w'→Q' e (fY b7 ds) w'):∀(fuel:Nat) (listed:Array Bool) (a:Act) (w:World),k9 T av a→wpAny P md ops Q fuel listed a w→wpAnyIn (hR r) n P md ops Q' fuel listed (fY a ds) w
 |0,listed,a,w,ad,h=>⟨h.1,cw _ _ _ ad h.2⟩
 |fuel+1,listed,a,w,ad,h=>by
  simp only[wpAny]at h
  simp only[wpAnyIn]
  refine⟨fun e=>cw _ _ _ ad (h.1 e),fun i hi=> ?_⟩
  have h:=h.2 i hi
  unfold wpOp at h
  unfold wpOpIn
  cases bz:ops[i]? with
  |none=>rw[bz]at h;exact MY jy cy fZ cw fuel _ a w ad h
  |some o=>
   rw[bz]at h
   simp only at h⊢
   have aD:∀x,o.dst=some x→T x=false:=fun x aj=>cy i o x bz aj
   by_cases hw:Region.wanted o (yielded ops a.tmps)=true
   ·rw[if_pos hw]at h
    rw[if_pos (show Region.wanted o (yielded ops (fY a ds).tmps)=true from hw)]
    rcases h with h|h
    ·refine Nd (jy i o bz) fZ h (fun b7 w' v ms e et=>MY jy cy fZ cw fuel _ b7 w' ?_ et) (fun As w' et=>cw _ _ _ ad et)
     subst e
     exact(ad.congr (b:= { a with defers:=ms }) rfl).put aD v
    ·exact absurd h.2 fZ
   ·rw[if_neg hw]at h
    rw[if_neg (show¬Region.wanted o (yielded ops (fY a ds).tmps)=true from hw)]
    refine⟨fun _ _=>trivial,?_⟩
    rw[Cw]
    exact MY jy cy fZ cw fuel _ _ w (ad.put aD undef) h
end
section
variable {N:Nat} {aR:e3} {aL:Mem} {R:bU} {σ σ':St} {a:Act} {w w':World} {rd rd':Mem} {β β':bU} {P:Program} {Γ:Env} {ops:Array Oper} {r:Option Nat} {n:Nat} {ds:List Deferred} {T:Nat→Bool} {av:Nat→Value}
theorem Zf {M:Nat} {l:List bW} (aH:zA P M ops ops.toList=some l):∀(i:Nat) (o:Oper),ops[i]? =some o→∀c,o.op≠ .defer c:=by
 intro i o bz c e
 have oY:=QF aH
 have key:∀{os:List Oper} {rM:List bW},lg (fun o lo=>se P M ops o=some lo) os rM→∀o∈os,∃lo,se P M ops o=some lo:=by
  intro os rM h
  induction h with
  |nil=>intro o h;cases h
  |cons h1 _ cJ=>
   intro o h
   rcases List.mem_cons.1 h with rfl|h
   ·exact⟨_,h1⟩
   ·exact cJ o h
 obtain⟨lo,ur⟩:=key oY o (by
  rw[←Array.getElem?_toList]at bz
  exact List.mem_of_getElem? bz)
 obtain⟨ky,_,h1,_⟩:=H8 ur
 rw[e]at h1
 cases h1
def Sr (ops:Array Oper):List Nat:=ops.toList.filterMap (·.dst)
def pH:Code→List Nat
 | .region _ ops _=>Sr ops
 | .seq a b=>pH a++pH b
 | .cond _ a b=>pH a++pH b
 | .block _ a=>pH a
 | .loop a=>pH a
 |_=>[]
theorem alc {i:Nat} {o:Oper} {d:Nat} (bz:ops[i]? =some o) (aD:o.dst=some d):d∈Sr ops:=by
 rw[←Array.getElem?_toList]at bz
 exact List.mem_filterMap.2 ⟨o,List.mem_of_getElem? bz,aD⟩
theorem Zg {Q:fi→St→Prop} :¬LetsOut (Ff N aR aL R Q):=by rintro⟨a,w,h⟩;exact h
def JF (N:Nat) (aR:e3) (aL:Mem) (R:bU) (ds:List Deferred) (T:Nat→Bool) (av:Nat→Value) (Q:fi→St→Prop) (e:Exit) (b7:Act) (w':World):Prop:=
 ∃dE,b7=fY dE ds∧k9 T av dE∧Ff N aR aL R Q e dE w'
theorem Yy (hm:P.follows .mixedOrders=true) (c6:ah P aL Γ) {M:Nat} (cg:M≤N) {id:Nat} {drawn:Bool} {lc:a3} (ae:er P M (.region id ops drawn)=some lc) {Q:fi→St→Prop}
 (cy:∀d∈Sr ops,T d=false) (ad:k9 T av a) (h:bd N aR aL R σ a w rd β) (aO:cb Γ lc Q σ):(Code.region id ops drawn).wpIn (hR r) n P (JF N aR aL R ds T av Q) (fY a ds) w:=by
 have cw:∀e b7 w',k9 T av b7→Ff N aR aL R Q e b7 w'→JF N aR aL R ds T av Q e (fY b7 ds) w':=fun e b7 w' h1 h2=>⟨b7,rfl,h1,h2⟩
 obtain⟨l,aH,auW⟩:=QQ ae
 have jy:=Zf aH
 have afg:∀(i:Nat) (o:Oper) (d:Nat),ops[i]? =some o→o.dst=some d→T d=false:=fun i o d bz aD=>cy d (alc bz aD)
 rcases auW with ⟨rfl,rfl⟩|⟨rfl,lz,c0,rfl⟩
 ·simp only[cb]at aO
  exact wpIn_region (MX jy afg Zg cw _ _ _ ad (Mq c6 cg (fun _ _ h=>h) _ _ (H3 aH) h aO))
 ·simp only[cb]at aO
  refine wpIn_region_any hm (MY jy afg Zg cw _ _ _ _ ad ?_)
  have oY:=H3 aH
  have hlen:l.length=ops.size:=by rw[←oY.length,List.length_range]
  obtain⟨β',aD⟩:=bd.pT (EJ (Region.before ops) (l.take (ops.size - jQ (Region.before ops) ops.size))) h
  have O9:(l.take (ops.size - jQ (Region.before ops) ops.size)).length=ops.size - jQ (Region.before ops) ops.size:=by rw[List.length_take];omega
  have fz:∀i,(Array.replicate ops.size false).getD i false=false:=fun i=>by
   rw[Array.getD_eq_getD_getElem?,Array.getElem?_replicate]
   split<;>rfl
  refine Y7 c6 cg oY c0 (Nat.sub_le _ _) (fun j h1 h2=>QG h1 h2) lz (fun _ _ h=>h) ops.size (rem:=(l.take (ops.size - jQ (Region.before ops) ops.size)).zipIdx) (List.Sublist.refl _) ?_ (by simp)
   (fun k o bz cE=>by rw[fz]at cE;cases cE) (fun i o UN=> ?_) (fun i _ _=>fz i) aD.drew (by
    have:EJ (Region.before ops) (l.take (ops.size - jQ (Region.before ops) ops.size))=(l.take (ops.size - jQ (Region.before ops) ops.size)).zipIdx.map (tag (Region.before ops) (l.take (ops.size - jQ (Region.before ops) ops.size))):=rfl
    rw[←this];exact aO)
  ·rw[List.length_zipIdx,O9];omega
  ·rw[List.mem_zipIdx_iff_getElem?]
   simp only[fz,iff_true]
   exact UN
theorem Xg {F:Fence} {c:Code} {Q:Exit→Act→World→Prop} (J:Nat→Act→World→Prop) (m:Nat) (h₀:J m a w)
 (round:∀m a w,J m a w→c.wpIn F n P (Exit.then (fun b7 w'=>∃eg,eg<m∧J eg b7 w') Q) a w):(Code.loop c).wpIn F n P Q a w:=by
 intro b k cs auX aw ar
 have key:∀m a w,J m a w→
  ∃e b7 w',Q e b7 w'∧ArrivesIn (Machine.fenced P F) P (lone (b.atR a (.code c:: .inLoop c::k)) cs w) b k cs e b7 w':=by
  intro m
  induction m using Nat.strongRecOn with
  |_ m cJ=>
   intro a w eP
   obtain⟨e,hN,hO,aO,fy⟩:=round m a w eP b (.inLoop c::k) cs auX aw ar
   cases e with
   |normal=>
    obtain⟨eg,bl,SO⟩:=aO
    obtain⟨CZ,C0,C1,CT,CL⟩:=cJ eg bl hN hO SO
    exact⟨CZ,C0,C1,CT,.of_steps (StepsIn.trans fy (.one (fenced_calm aw ar rfl) stepR_inLoop)) CL⟩
   |exit id=>exact⟨_,hN,hO,aO,.pass (x:= .inLoop c) rfl (fun _ _=> .inl (by simp)) fy⟩
   |goto l=>exact⟨_,hN,hO,aO,.pass (x:= .inLoop c) rfl (fun _ _=> .inl (by simp)) fy⟩
   |ret=>exact⟨_,hN,hO,aO,.pass (x:= .inLoop c) rfl (fun _ _=> .inl (by simp)) fy⟩
   |panic As=>exact⟨_,hN,hO,aO,.pass (x:= .inLoop c) rfl (fun _ _=> .inl (by simp)) fy⟩
   |outgrown=>exact⟨_,hN,hO,aO,.pass (x:= .inLoop c) rfl (fun _ _=> .inl (by simp)) fy⟩
 obtain⟨e,b7,w',aO,fy⟩:=key _ a w h₀
 exact⟨e,b7,w',aO,.of_steps (.one (fenced_calm aw ar rfl) stepR_loop) fy⟩
theorem RT (hm:P.follows .mixedOrders=true) (c6:ah P aL Γ) {M:Nat} (cg:M≤N):∀(c:Code) {lc:a3} {Q:fi→St→Prop} {σ:St} {a:Act} {w:World} {rd:Mem} {β:bU},er P M c=some lc→(∀d∈pH c,T d=false)→k9 T av a→
 bd N aR aL R σ a w rd β→cb Γ lc Q σ→c.wpIn (hR r) n P (JF N aR aL R ds T av Q) (fY a ds) w:=by
 intro c
 induction c with
 |skip=>
  intro lc Q σ a w rd β ae cy gB h ad
  simp only[er,Option.some.injEq]at ae;subst ae
  exact wpIn_skip ⟨a,rfl,gB,σ,rd,β,ad,h⟩
 |region id ops drawn=>
  intro lc Q σ a w rd β ae cy gB h ad
  exact Yy hm c6 cg ae cy gB h ad
 |seq x y mE sQ=>
  intro lc Q σ a w rd β ae cy gB h ad
  simp only[er]at ae
  simp only[pH,List.mem_append]at cy
  split at ae
  ·rename_i c7 gW aj hy
   simp only[Option.some.injEq]at ae;subst ae
   simp only[cb]at ad
   refine wpIn_seq (wpIn_mono (mE aj (fun d aD=>cy d (.inl aD)) gB h ad) fun e b7 w' he=> ?_)
   obtain⟨dE,rfl,tN,he⟩:=he
   cases e with
   |normal=>obtain⟨σ',rd',β',h1,h2⟩:=he;exact sQ hy (fun d aD=>cy d (.inr aD)) tN h2 h1
   |exit id=>exact⟨dE,rfl,tN,he⟩
   |ret=>exact⟨dE,rfl,tN,he⟩
   |_=>exact he.elim
  ·cases ae
 |cond Pa x y mE sQ=>
  intro lc Q σ a w rd β ae cy gB h ad
  simp only[er]at ae
  simp only[pH,List.mem_append]at cy
  split at ae
  ·rename_i aU c7 gW ay aj hy
   simp only[Option.some.injEq]at ae;subst ae
   simp only[cb]at ad
   have ar:=ez h ay
   split at ad
   ·rename_i t DD
    rw[DD]at ar
    simp only[aT,bj]at ar
    rw[←QR a ds]at ar
    cases t with
    |true=>exact wpIn_cond_true ar (mE aj (fun d aD=>cy d (.inl aD)) gB h (ad.1 rfl))
    |false=>exact wpIn_cond_false ar (sQ hy (fun d aD=>cy d (.inr aD)) gB h (ad.2 rfl))
   ·exact ad.elim
  ·cases ae
 |block id x cJ=>
  intro lc Q σ a w rd β ae cy gB h ad
  simp only[er]at ae
  obtain⟨c7,aj,rfl⟩:=map_some ae
  simp only[cb]at ad
  refine wpIn_block (wpIn_mono (cJ aj cy gB h ad) fun e b7 w' he=> ?_)
  obtain⟨dE,rfl,tN,he⟩:=he
  cases e with
  |normal=>exact⟨dE,rfl,tN,he⟩
  |exit j=>
   obtain⟨σ',rd',β',h1,h2⟩:=he
   simp only at h1
   unfold Exit.inBlock
   simp only
   split at h1
   ·rename_i aF;rw[if_pos aF];exact⟨dE,rfl,tN,σ',rd',β',h1,h2⟩
   ·rename_i aF;rw[if_neg aF];exact⟨dE,rfl,tN,σ',rd',β',h1,h2⟩
  |ret=>exact⟨dE,rfl,tN,he⟩
  |_=>exact he.elim
 |loop x cJ=>
  intro lc Q σ a w rd β ae cy gB h ad
  simp only[er]at ae
  obtain⟨c7,aj,rfl⟩:=map_some ae
  simp only[cb,CN]at ad
  obtain⟨I,eT,h0,eP⟩:=ad
  refine Xg (fun m b7 w=>∃dE,b7=fY dE ds∧k9 T av dE∧jh N aR aL R (fun s=>I s∧eT s=m) dE w) (eT σ) ⟨a,rfl,gB,σ,rd,β,⟨h0,rfl⟩,h⟩ ?_
  rintro m b7 w ⟨dE,rfl,gB,s,rd',β',⟨h1,rfl⟩,h2⟩
  refine wpIn_mono (cJ aj cy gB h2 (eP s h1)) fun e b7 w' he=> ?_
  obtain⟨cj,rfl,tN,he⟩:=he
  cases e with
  |normal=>
   obtain⟨ef,gy,kR,⟨bh,bB⟩,c2⟩:=he
   exact⟨eT ef,bB,cj,rfl,tN,ef,gy,kR,⟨bh,rfl⟩,c2⟩
  |exit j=>exact⟨cj,rfl,tN,he⟩
  |ret=>exact⟨cj,rfl,tN,he⟩
  |_=>exact he.elim
 |exit id=>
  intro lc Q σ a w rd β ae cy gB h ad
  simp only[er,Option.some.injEq]at ae;subst ae
  exact wpIn_exit ⟨a,rfl,gB,σ,rd,β,ad,h⟩
 |ret=>
  intro lc Q σ a w rd β ae cy gB h ad
  simp only[er,Option.some.injEq]at ae;subst ae
  exact wpIn_ret ⟨a,rfl,gB,σ,rd,β,ad,h⟩
 |_=>intro lc Q σ a w rd β ae cy gB h ad;cases ae
end
end RV
