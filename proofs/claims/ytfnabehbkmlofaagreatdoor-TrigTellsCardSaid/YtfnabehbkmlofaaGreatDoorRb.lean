/- Lemmas for a claim: an abstract machine for the translated code, proved sound, and contracts of functions. By an AI agent. -/
import Derived.Test.YtfnabehbkmlofaaGreatDoorRa
import Derived.Laws.IdiomCopy
set_option linter.all false
namespace RV
open Go Go.RowKit
section
variable {N:Nat} {aR:e3} {aL:Mem} {R:bU} {σ σ':St} {a:Act} {w:World} {rd:Mem} {β β':bU} {P:Program} {Γ:Env}
theorem akB (h:bd N aR aL R σ a w rd β) {o:Oper} {s:TypeId} {x:Operand} {f:Nat} (bw:o.op= .fieldAddr s x f) {l:bx} (ae:pJ P s x f=some l) {K:ag→Prop} (ad:bf Γ σ K l):gL P N aR aL R σ a w β o K:=by
 unfold pJ at ae
 split at ae
 ·rename_i fs cM hu aj
  split at ae
  ·rename_i fd hf
   split at ae
   ·rename_i n aJ
    simp only[Option.some.injEq]at ae;subst ae
    have ar:=ez h aj
    have run:∀b o',a.eval x= .pointer (some (cellAt b o'))→(Instr.fieldAt s (a.eval x) f).run P w= .ok (.pointer (some (cellAt b (o'+fd.offset)))) w:=by
     intro b o' e
     simp[Instr.fieldAt,eu hu,hf,e,Instr.sureAddr,fieldPlace,lW aJ,x5]
    simp only[bf]at ad
    split at ad
    ·rename_i i off e
     rw[e]at ar
     simp only[aT]at ar
     obtain⟨r,je,lv⟩:=ar
     exact(Yields.here h ad (by simp only[aT];exact⟨r,je,by rw[Nat.add_assoc]⟩) (run _ _ lv)).done (by simp[execOp,bw])
    ·rename_i i j off e
     rw[e]at ar
     simp only[aT]at ar
     obtain⟨r,je,lv⟩:=ar
     exact(Yields.here h ad (by simp only[aT];exact⟨r,je,by rw[Nat.add_assoc]⟩) (run _ _ lv)).done (by simp[execOp,bw])
    ·rename_i cs e
     rw[e]at ar
     simp only[aT,bj]at ar
     obtain⟨b,o',je,lv⟩:=ar
     exact(Yields.here h ad (by simp only[aT,bj];exact⟨b,_,rfl,lv.drop _⟩) (run _ _ je)).done (by simp[execOp,bw])
    ·exact ad.elim
   ·cases ae
  ·cases ae
 ·cases ae
theorem MP {t:TypeId} {n:Nat} {g:Bool} (ae:p3 P t=some (n,g)) {cs:List ag} {vs:Array Value} (aB:bY rd β cs vs.toList) {off:Nat} {K:ag→Prop}
 (ad:if g=true then off+n≤cs.length∧K (.agg ((cs.drop off).take n))else match cs[off]? with|some v=>K v|none=>False):
 ∃av u,K av∧aT rd β av u∧∀w,(part t vs off).run P w= .ok u w:=by
 cases g with
 |true=>
  simp only[if_true]at ad
  refine⟨_,.agg (vs.extract off (off+n)),ad.2,?_,fun w=>by simp[part,Mz ae,lW (Q0 ae)]⟩
  simp only[aT]
  refine⟨_,rfl,?_⟩
  have:=Qy n (Qz off aB)
  rw[Array.toList_extract,List.extract_eq_take_drop]
  rwa [show off+n - off=n by omega]
 |false=>
  simp only[Bool.false_eq_true,if_false]at ad
  split at ad
  ·rename_i c ay
   obtain⟨u,h1,h2⟩:=QM aB ay
   refine⟨c,u,ad,h2,fun w=> ?_⟩
   have:vs[off]? =some u:=by simpa using h1
   simp[part,Mz ae,this]
  ·exact ad.elim
theorem akC (h:bd N aR aL R σ a w rd β) {o:Oper} {s:TypeId} {x:Operand} {f:Nat} (bw:o.op= .field s x f) {l:bx} (ae:pK P s x f=some l) {K:ag→Prop} (ad:bf Γ σ K l):gL P N aR aL R σ a w β o K:=by
 unfold pK at ae
 split at ae
 ·rename_i fs cM hu aj
  split at ae
  ·rename_i fd hf
   split at ae
   ·rename_i n g aJ
    simp only[Option.some.injEq]at ae;subst ae
    have ar:=ez h aj
    simp only[bf]at ad
    split at ad
    ·rename_i cs e
     rw[e]at ar
     simp only[aT]at ar
     obtain⟨vs,kr,H⟩:=ar
     obtain⟨av,u,h1,h2,aq⟩:=MP aJ H ad
     exact(Yields.here h (s:=Instr.field s (a.eval x) f) h1 h2 (by simp[Instr.field,eu hu,hf,kr,asAgg,aq])).done (by simp[execOp,bw])
    ·exact ad.elim
   ·cases ae
  ·cases ae
 ·cases ae
theorem amF (h:bd N aR aL R σ a w rd β) {o:Oper} {t:TypeId} {x i:Operand} (bw:o.op= .index t x i) {l:bx} (ae:pM P t x i=some l) {K:ag→Prop} (ad:bf Γ σ K l):gL P N aR aL R σ a w β o K:=by
 unfold pM at ae
 split at ae
 ·rename_i len e cM lM hu aj hi
  split at ae
  ·rename_i n g aJ
   simp only[Option.some.injEq]at ae;subst ae
   have cQ:=ez h aj
   have rK:=ez h hi
   simp only[bf]at ad
   split at ad
   ·rename_i cs k j aN aX
    rw[aN]at cQ;rw[aX]at rK
    simp only[aT,bj]at cQ rK
    obtain⟨vs,kr,H⟩:=cQ
    obtain⟨h0,h1,ad⟩:=ad
    obtain⟨av,u,bh,bB,c2⟩:=MP aJ H ad
    exact(Yields.here h (s:=Instr.index t (a.eval x) (a.eval i)) bh bB (by simp[Instr.index,rK,asIntOf,eu hu,kr,h0,h1,lW (Q0 aJ),c2])).done (by simp[execOp,bw])
   ·exact ad.elim
  ·cases ae
 ·cases ae
theorem akD (h:bd N aR aL R σ a w rd β) {o:Oper} {t:TypeId} {x i:Operand} (bw:o.op= .indexAddr t x i) {l:bx} (ae:pL P t x i=some l) {K:ag→Prop} (ad:bf Γ σ K l):gL P N aR aL R σ a w β o K:=by
 unfold pL at ae
 split at ae
 ·rename_i e cM lM hu aj hi
  obtain⟨n,aJ,rfl⟩:=map_some ae
  have cQ:=ez h aj
  have rK:=ez h hi
  simp only[bf]at ad
  split at ad
  ·rename_i k j aX
   rw[aX]at rK
   simp only[aT,bj]at rK
   exact(ajN (k:=k) hu aJ h cQ ad).done (by simp[execOp,bw,rK])
  ·exact ad.elim
 ·rename_i len e cM lM hu aj hi
  obtain⟨n,aJ,rfl⟩:=map_some ae
  have cQ:=ez h aj
  have rK:=ez h hi
  simp only[bf]at ad
  have run:∀b o' k j,a.eval x= .pointer (some (cellAt b o'))→a.eval i= .int k j→0≤j→j<len→(Instr.indexAt t (a.eval x) (a.eval i)).run P w= .ok (.pointer (some (cellAt b (o'+j.toNat*n)))) w:=by
   intro b o' k j aN aX h0 h1
   simp[Instr.indexAt,aN,aX,asIntOf,eu hu,Instr.sureAddr,h0,h1,lW aJ,x5]
  split at ad
  ·rename_i b off k j aN aX
   rw[aN]at cQ;rw[aX]at rK
   simp only[aT,bj]at cQ rK
   obtain⟨r,je,lv⟩:=cQ
   obtain⟨h0,h1,ad⟩:=ad
   exact(Yields.here h ad (by simp only[aT];exact⟨r,je,by rw[Nat.add_assoc]⟩) (run _ _ _ _ lv rK h0 h1)).done (by simp[execOp,bw])
  ·rename_i cs k j aN aX
   rw[aN]at cQ;rw[aX]at rK
   simp only[aT,bj]at cQ rK
   obtain⟨b,o',je,lv⟩:=cQ
   obtain⟨h0,h1,ad⟩:=ad
   exact(Yields.here h ad (by simp only[aT,bj];exact⟨b,_,rfl,lv.drop _⟩) (run _ _ _ _ je rK h0 h1)).done (by simp[execOp,bw])
  ·exact ad.elim
 ·cases ae
theorem Rl {m:Mem} :∀{ds:List D} {vs:List Value} {k:Nat} {d:D},bP m ds vs→ds[k]? =some d→∃v,vs[k]? =some v∧bj m d v
 |c::cs,vs,0,c',h,ay=>by
  simp only[bP]at h
  obtain⟨v,yT,rfl,h1,h2⟩:=h
  simp at ay;subst ay
  exact⟨v,rfl,h1⟩
 |c::cs,vs,k+1,c',h,ay=>by
  simp only[bP]at h
  obtain⟨v,yT,rfl,h1,h2⟩:=h
  have cZ:cs[k]? =some c':=by simpa using ay
  obtain⟨x,aq,aK⟩:=Rl h2 cZ
  exact⟨x,by simpa using aq,aK⟩
theorem alA (h:bd N aR aL R σ a w rd β) {o:Oper} {x:Operand} {i:Nat} (bw:o.op= .extract x i) {v:bk} (aj:dA P x=some v) {K:ag→Prop} (ad:bf Γ σ K (.l5 i v)):gL P N aR aL R σ a w β o K:=by
 have ar:=ez h aj
 simp only[bf]at ad
 split at ad
 ·rename_i ds e
  rw[e]at ar
  simp only[aT,bj]at ar
  obtain⟨vs,hu,H⟩:=ar
  split at ad
  ·rename_i d aD
   obtain⟨u,h1,h2⟩:=Rl H aD
   have Uy:vs[i]? =some u:=by simpa using h1
   exact(Yields.here h (s:=Instr.extract (a.eval x) i) ad (pG h2) (by simp[Instr.extract,hu,Uy])).done (by simp[execOp,bw])
  ·exact ad.elim
 ·exact ad.elim
theorem W1 {t:TypeId} (h:Iq P t=true):∃e,P.underlying t=some (.slice e):=by
 unfold Iq at h
 split at h
 ·rename_i e he;exact⟨e,he⟩
 ·cases h
theorem ajP (h:bd N aR aL R σ a w rd β) {o:Oper} {b:Builtin} {args:Array Operand} {c1:Array TypeId} (bw:o.op= .call { callee:= .builtin b,args,argTypes:=c1 }) {l:bx}
 (ae:pD P b args.toList c1.toList=some l) {K:ag→Prop} (ad:bf Γ σ K l):gL P N aR aL R σ a w β o K:=by
 unfold pD at ae
 split at ae
 ·rename_i x t a6 Kx
  split at ae
  ·rename_i aE
   obtain⟨e,hu⟩:=W1 aE
   obtain⟨v,aj,rfl⟩:=map_some ae
   have ar:=ez h aj
   have uw:args= #[x]:=by rw[←Array.toList_inj];exact a6
   have JA:c1= #[t]:=by rw[←Array.toList_inj];exact Kx
   subst uw JA
   have run:∀A n cap,a.eval x= .slice A n cap→(Builtin.len_ #[t] o.type #[a.eval x]).run P w= .ok (.int .i64 n) w:=by
    intro A n cap e
    simp[Builtin.len_,eu hu,e,goInt]
   have fin:∀{n:Nat},K (.d (.int .i64 n))→(∃A cap,a.eval x= .slice A n cap)→gL P N aR aL R σ a w β o K:=by
    rintro n ad ⟨A,cap,e⟩
    refine(Yields.int (s:=Builtin.len_ #[t] o.type #[a.eval x]) h ad (run _ _ _ e)).done ?_
    simp[execOp,bw,resolve,invoke,builtin]
   simp only[bf,Jt]at ad
   generalize σ.aU v=y at ar ad
   split at ad<;>first
    |(simp only[aT,bj]at ar;obtain⟨A,cap,h1,_⟩:=ar;exact fin ad ⟨A,cap,h1⟩)
    |exact ad.elim
  ·cases ae
 ·rename_i x y a6
  split at ae
  ·rename_i cM eY aj hy
   simp only[Option.some.injEq]at ae;subst ae
   have cQ:=ez h aj
   have gm:=ez h hy
   have uw:args= #[x,y]:=by rw[←Array.toList_inj];exact a6
   subst uw
   simp only[bf]at ad
   split at ad
   ·rename_i k n cX m aN aX
    rw[aN]at cQ;rw[aX]at gm
    simp only[aT,bj]at cQ gm
    refine(Yields.int (s:=Builtin.max_ c1 o.type #[a.eval x,a.eval y]) h ad ?_).done ?_
    ·simp[Builtin.max_,cQ,gm,Builtin.max2]
    ·simp[execOp,bw,resolve,invoke,builtin]
   ·exact ad.elim
  ·cases ae
 ·rename_i x y a6
  split at ae
  ·rename_i cM eY aj hy
   simp only[Option.some.injEq]at ae;subst ae
   have cQ:=ez h aj
   have gm:=ez h hy
   have uw:args= #[x,y]:=by rw[←Array.toList_inj];exact a6
   subst uw
   simp only[bf]at ad
   split at ad
   ·rename_i k n cX m aN aX
    rw[aN]at cQ;rw[aX]at gm
    simp only[aT,bj]at cQ gm
    refine(Yields.int (s:=Builtin.min_ c1 o.type #[a.eval x,a.eval y]) h ad ?_).done ?_
    ·simp[Builtin.min_,cQ,gm,Builtin.min2]
    ·simp[execOp,bw,resolve,invoke,builtin]
   ·exact ad.elim
  ·cases ae
 ·split at ae
  ·split at ae
   ·simp only[Option.some.injEq]at ae;subst ae;simp only[bf]at ad
   ·cases ae
  ·cases ae
 ·split at ae
  ·split at ae
   ·simp only[Option.some.injEq]at ae;subst ae;simp only[bf]at ad
   ·cases ae
  ·cases ae
 ·cases ae
theorem akE (h:bd N aR aL R σ a w rd β) {o:Oper} {t:TypeId} {x:Operand} {lo hi po:Option Operand} (bw:o.op= .slice t x lo hi po) {l:bx} (ae:pN P t x lo hi po=some l) {K:ag→Prop} (ad:bf Γ σ K l):gL P N aR aL R σ a w β o K:=by
 unfold pN at ae
 split at ae
 ·rename_i e cM hu aj
  split at ae
  ·rename_i n lo' hi' aJ ur BM
   simp only[Option.some.injEq]at ae;subst ae
   simp only[bf]at ad
   exact(akw hu aJ h (ez h aj) (aas h ur) (aas h BM) ad).done (by simp[execOp,bw])
  ·cases ae
 ·cases ae
theorem aj8 (h:bd N aR aL R σ a w rd β) {o:Oper} {t:TypeId} {len:Nat} {parts:Array (Nat×Operand)} (bw:o.op= .buildSlice t len parts) {l:bx} (ae:p5 P t len parts=some l) {K:ag→Prop} (ad:bf Γ σ K l):gL P N aR aL R σ a w β o K:=by
 unfold p5 at ae
 split at ae
 ·rename_i e hu
  split at ae
  ·rename_i ek mC
   split at ae
   ·rename_i bp
    split at ae
    ·split at ae
     ·simp only[Option.some.injEq]at ae;subst ae;simp only[bf]at ad
     ·cases ae
    ·split at ae
     ·rename_i ay
      simp only[Bool.and_eq_true,decide_eq_true_eq]at ay
      obtain⟨ls,Ux,rfl⟩:=map_some ae
      exact(aky h hu mC ay.1 ay.2 bp Ux ad).done (by simp[execOp,bw])
     ·cases ae
   ·cases ae
  ·cases ae
 ·cases ae
theorem alB (h:bd N aR aL R σ a w rd β) {o:Oper} {f:Nat} {fst cap:Array Operand} (bw:o.op= .makeFunc (.func f) fst cap) {l:bx} (ae:pX P f fst cap=some l) {K:ag→Prop} (ad:bf Γ σ K l):gL P N aR aL R σ a w β o K:=by
 unfold pX at ae
 split at ae
 ·rename_i x y aj hy
  simp only[Option.some.injEq]at ae;subst ae
  have je:=qP h aj
  have lv:=qP h hy
  have he:(execOp a.eval o).run P w= .ok (.value (.func (.func f) (fst.map a.eval) (cap.map a.eval))) w:=by simp[execOp,bw,Instr.makeFunc]
  simp only[bf]at ad
  split at ad
  ·rename_i aQ
   simp only[Bool.and_eq_true]at aQ
   split at ad
   ·rename_i d1 d2 h1 h2
    have bA:=AR h aQ.1 h1 je
    have bX:=AR h aQ.2 h2 lv
    exact iC h ad (by simp only[aT,bj];exact⟨_,_,rfl,by simpa using bA,by simpa using bX⟩) he
   ·exact ad.elim
  ·exact iC h ad (by simp only[aT];exact⟨_,_,rfl,by simpa using je,by simpa using lv⟩) he
 ·cases ae
theorem alC {f:Nat} {n:String} (h:tI P f=some n):∃fn,P.funcs[f]? =some fn∧fn.body.isNone=true∧fn.name=n∧fn.origin= "" :=by
 unfold tI at h
 split at h
 ·rename_i fn hf
  split at h
  ·rename_i ay
   simp only[Bool.and_eq_true,beq_iff_eq]at ay
   simp only[Option.some.injEq]at h;subst h
   exact⟨fn,hf,ay.1,rfl,ay.2⟩
  ·cases h
 ·cases h
theorem ZR {f:Nat} {n:String} {e:Array Value→Sem Value} (h:tI P f=some n) (lN:(n== "runtime.NumGoroutine")=false) (cI:Extern.allNextRows.lookup n=none)
 (dS:Extern.allGenericRows.lookup n=none) (s5:Extern.allTypedRows.lookup n=none) (qz:Extern.allRows.lookup n=some e) {args:Array Value} {v:Value} {w:World} (he:(e args).run P w= .ok v w):
 (callFunc f args).run P w= .ok (.value v) w:=by
 obtain⟨fn,hf,aw,aJ,bz⟩:=alC h
 have aus:Extern.allNextRows.lookup "" =none:=by kernel_rfl
 have aN:Extern.findNext fn=none:=by simp[Extern.findNext,aJ,bz,cI,aus]
 have aX:Extern.find fn=some e:=by simp[Extern.find,aJ,dS,s5,qz]
 have b8:¬n= "runtime.NumGoroutine" :=by simpa using lN
 have cc:fn.body=none:=by simpa using aw
 simp[callFunc,hf,cc,aJ,b8,aN,aX,he]
theorem alD (n:Nat) {f:Nat} (h:tI P f=some "math.Float64bits") (w:World):(callFunc f #[.float .f64 n]).run P w= .ok (.value (.int .u64 n)) w:=
 ZR h (by decide) (by kernel_rfl) (by kernel_rfl) (by kernel_rfl) (e:=Extern.MathFloatBits.float64bits) (by kernel_rfl) rfl
theorem alE (n:Int) {f:Nat} (h:tI P f=some "math.Float64frombits") (w:World):(callFunc f #[.int .u64 n]).run P w= .ok (.value (.float .f64 n.toNat)) w:=
 ZR h (by decide) (by kernel_rfl) (by kernel_rfl) (by kernel_rfl) (e:=Extern.MathFloatBits.float64frombits) (by kernel_rfl) rfl
theorem MB {n:String} {bm:List bk} {l:bx} (h:Bq n bm=some l):∃x,bm=[x]∧((n= "math.Float64bits"∧l= .sj x)∨(n= "math.Float64frombits"∧l= .oT x)):=by
 unfold Bq at h
 split at h
 ·rename_i x
  refine⟨x,rfl,?_⟩
  split at h
  ·rename_i aJ
   simp only[Option.some.injEq]at h
   exact .inl ⟨by simpa using aJ,h.symm⟩
  ·split at h
   ·rename_i aJ
    simp only[Option.some.injEq]at h
    exact .inr ⟨by simpa using aJ,h.symm⟩
   ·cases h
 ·cases h
theorem x6 {f:Nat} {X:Option (List bk)} {l:bx} (h:(match tI P f with|some n=>X.bind (Bq n)|none=>X.map (bx.call f))=some l):
 (∃bm,X=some bm∧l= .call f bm)∨(∃x,X=some [x]∧((tI P f=some "math.Float64bits"∧l= .sj x)∨(tI P f=some "math.Float64frombits"∧l= .oT x))):=by
 cases aJ:tI P f with
 |none=>
  rw[aJ]at h
  obtain⟨bm,h1,h2⟩:=map_some h
  exact .inl ⟨bm,h1,h2.symm⟩
 |some n=>
  rw[aJ]at h
  cases X with
  |none=>cases h
  |some bm=>
   obtain⟨x,rfl,⟨rfl,rfl⟩|⟨rfl,rfl⟩⟩:=MB (show Bq n bm=some l from h)
   ·exact .inr ⟨x,rfl,.inl ⟨rfl,rfl⟩⟩
   ·exact .inr ⟨x,rfl,.inr ⟨rfl,rfl⟩⟩
theorem ZS {args:Array Operand} {c1:Array TypeId} {x:bk} (h:bd N aR aL R σ a w rd β) (aB:iX P c1.toList args.toList=some [x]):∃y,args= #[y]∧aT rd β (σ.aU x) (a.eval y):=by
 have ar:=qP h aB
 simp only[cr,List.map_cons,List.map_nil,bY]at ar
 obtain⟨v,us,h1,h2,rfl⟩:=ar
 match aH:args.toList,h1 with
 |[y],h1=>
  simp only[List.map_cons,List.map_nil,List.cons.injEq,and_true]at h1
  refine⟨y,by rw[←Array.toList_inj];exact aH,by rw[h1];exact h2⟩
theorem akF (h:bd N aR aL R σ a w rd β) {o:Oper} {f:Nat} {args:Array Operand} {c1:Array TypeId} (bw:o.op= .call { callee:= .value (.func f),args,argTypes:=c1 }) (hf:tI P f=some "math.Float64frombits")
 {x:bk} (aB:iX P c1.toList args.toList=some [x]) {K:ag→Prop} (ad:bf Γ σ K (.oT x)):gL P N aR aL R σ a w β o K:=by
 obtain⟨y,rfl,ar⟩:=ZS h aB
 simp only[bf]at ad
 split at ad
 ·rename_i n e
  rw[e]at ar
  simp only[aT,bj]at ar
  refine iC h ad (u:= .float .f64 n.toNat) (by simp only[aT,bj];exact⟨_,rfl,rfl⟩) ?_
  have:=alE n hf w
  have bb:a.eval (.func f)= .func (.func f) #[] #[]:=rfl
  simp only[execOp,bw,resolve,Sem.run_bind,List.map_toArray,List.map_cons,List.map_nil,bb,ar]
  simp[Deferred.ofValue,invoke,this,Result.andThen]
 ·exact ad.elim
theorem amG (h:bd N aR aL R σ a w rd β) {o:Oper} {t:TypeId} {x:Operand} (bw:o.op= .makeInterface t x) {l:bx} (ae:p6 P t x=some l) {K:ag→Prop} (ad:bf Γ σ K l):gL P N aR aL R σ a w β o K:=by
 unfold p6 at ae
 split at ae
 ·simp only[Option.some.injEq]at ae;subst ae;simp only[bf]at ad
 ·rename_i hi
  split at ae
  ·rename_i u v hu aB
   simp only[Option.some.injEq]at ae;subst ae
   have ar:=x4 h aB
   simp only[bf]at ad
   obtain⟨aQ,ad⟩:=ad
   split at ad
   ·rename_i d aD
    have aH:=AR h (vs:=[σ.aU v]) (us:=[a.eval x]) (ds:=[d]) (by simp only[ag.g8,aQ,Bool.and_true]) (by simp only[toDs,aD]) (by simp only[bY];exact⟨_,_,rfl,ar,rfl⟩)
    simp only[bP]at aH
    obtain⟨cR,us,e,aH,_⟩:=aH
    simp only[List.cons.injEq]at e
    obtain⟨rfl,_⟩:=e
    refine iC h ad (u:= .iface t (a.eval x)) (by simp only[aT,bj];exact⟨_,rfl,aH⟩) ?_
    have hm:(Instr.makeInterface t (a.eval x)).run P w= .ok (.iface t (a.eval x)) w:=by
     unfold Instr.makeInterface
     simp only[Sem.run_bind,eu hu,Result.andThen_ok]
     split
     ·exfalso
      rename_i azl
      apply hi
      unfold I2
      rw[hu]
     ·rfl
    simp[execOp,bw,hm]
   ·exact ad.elim
  ·simp only[Option.some.injEq]at ae;subst ae;simp only[bf]at ad
theorem ZT {v:ag} {u:Value} {k:List Int} (h:v.key=some k) (ar:aT rd β v u):u=hd k∧((∃n,k=[n])∨∃x y,k=[x,y]):=by
 unfold ag.key at h
 split at h
 ·simp only[Option.some.injEq]at h;subst h
  simp only[aT,bj]at ar
  exact⟨ar,.inl ⟨_,rfl⟩⟩
 ·obtain⟨p,aQ,rfl⟩:=map_some h
  exact⟨Rk aQ ar,.inr ⟨_,_,rfl⟩⟩
theorem Q3 {t:TypeId} {n:Nat} {e:TypeId} (h:Br P t=some (n,e)):∃k,P.underlying t=some (.map k e)∧((n=1∧oX P k=true)∨(n=2∧yv P k=true)):=by
 unfold Br at h
 split at h
 ·rename_i k e' hu
  split at h
  ·rename_i hi
   simp only[Option.some.injEq,Prod.mk.injEq]at h
   obtain⟨rfl,rfl⟩:=h
   exact⟨k,hu,.inl ⟨rfl,hi⟩⟩
  ·split at h
   ·rename_i hi
    simp only[Option.some.injEq,Prod.mk.injEq]at h
    obtain⟨rfl,rfl⟩:=h
    exact⟨k,hu,.inr ⟨rfl,hi⟩⟩
   ·cases h
 ·cases h
def u3 (rd:Mem) (n:Nat) (xs:List (List Int×D)) (l:List Int) (es:List MapEntry) (i:Nat) (r:Option (Nat×Value)):Prop:=
 match kc xs l with
 |some d=>∃j v,r=some (i+j,v)∧bj rd d v∧(es[j]?).map (·.key)=some (hd l)∧∀hQ cR,bj rd hQ cR→iY rd n (qW xs l hQ) (es.modify j fun e=> { e with key:=hd l,val:=cR })
 |none=>r=none∧∀hQ cR lr,bj rd hQ cR→iY rd n (qW xs l hQ) (es++[{ key:=hd l,val:=cR,born:=lr }])
theorem XI {rd:Mem} {n:Nat} {l:List Int} {i:Nat} (aH:l.length=n):u3 rd n [] l [] i none:=by
 refine⟨rfl,fun hQ cR lr aD=> ?_⟩
 simp only[qW,iY,List.nil_append]
 exact⟨aH,_,[],rfl,rfl,aD,rfl⟩
theorem Xp {rd:Mem} {n:Nat} {l:List Int} {i:Nat} {d:D} {xs:List (List Int×D)} {e:MapEntry} {es:List MapEntry} (aH:l.length=n) (ad:e.key=hd l) (aD:bj rd d e.val) (h:iY rd n xs es):
 u3 rd n ((l,d)::xs) l (e::es) i (some (i,e.val)):=by
 unfold u3
 simp only[kc,if_true,qW]
 refine⟨0,e.val,rfl,aD,by simp[ad],fun hQ cR lu=> ?_⟩
 simp only[List.modify_zero_cons,iY]
 exact⟨aH,_,es,rfl,rfl,lu,h⟩
theorem Xq {rd:Mem} {n:Nat} {l j:List Int} {i:Nat} {d:D} {xs:List (List Int×D)} {e:MapEntry} {es:List MapEntry} {r:Option (Nat×Value)} (aF:j.length=n) (eB:¬j=l) (ad:e.key=hd j) (aD:bj rd d e.val)
 (h:u3 rd n xs l es (i+1) r):u3 rd n ((j,d)::xs) l (e::es) i r:=by
 unfold u3 at*
 simp only[kc,if_neg eB,qW]
 cases hm:kc xs l with
 |none=>
  rw[hm]at h
  refine⟨h.1,fun hQ cR lr lu=> ?_⟩
  simp only[List.cons_append,iY]
  exact⟨aF,e,_,rfl,ad,aD,h.2 hQ cR lr lu⟩
 |some d0=>
  rw[hm]at h
  obtain⟨q,v,aN,aX,cc,cN⟩:=h
  refine⟨q+1,v,by rw[aN];congr 2;omega,aX,by simpa using cc,fun hQ cR lu=> ?_⟩
  simp only[List.modify_succ_cons,iY]
  exact⟨aF,e,_,rfl,ad,aD,cN hQ cR lu⟩
theorem YR {td:TypeDesc} {n:Nat} (aE:∀(l ky:List Int),l.length=n→ky.length=n→Instr.sameNow td (hd l) (hd ky)=some (l==ky)) {l:List Int} (aH:l.length=n) {rd:Mem} :
 ∀{xs:List (List Int×D)} {es:List MapEntry} (i:Nat),iY rd n xs es→∃r,Instr.findNow td (hd l) es i=some r∧u3 rd n xs l es i r
 |[],es,i,h=>by
  simp only[iY]at h;subst h
  exact⟨none,rfl,XI aH⟩
 |(j,d)::xs,es,i,h=>by
  simp only[iY]at h
  obtain⟨aF,e,es,rfl,ad,aD,h⟩:=h
  simp only[Instr.findNow,ad,aE l j aH aF]
  by_cases o7:j=l
  ·subst o7
   simp only[beq_self_eq_true]
   exact⟨_,rfl,Xp aF ad aD h⟩
  ·have eB:(l==j)=false:=by simp;exact fun e=>o7 e.symm
   simp only[eB]
   obtain⟨r,h1,h2⟩:=YR aE aH (i+1) h
   exact⟨r,h1,Xq aF o7 ad aD h2⟩
theorem YS {k:TypeId} {n:Nat} (aE:∀(l ky:List Int),l.length=n→ky.length=n→∀w,(Op.equal k (hd l) (hd ky)).run P w= .ok (l==ky) w) {l:List Int} (aH:l.length=n) {rd:Mem} (w:World):
 ∀{xs:List (List Int×D)} {es:List MapEntry} (i:Nat),iY rd n xs es→∃r,(Instr.findAsking k (hd l) es i).run P w= .ok r w∧u3 rd n xs l es i r
 |[],es,i,h=>by
  simp only[iY]at h;subst h
  exact⟨none,rfl,XI aH⟩
 |(j,d)::xs,es,i,h=>by
  simp only[iY]at h
  obtain⟨aF,e,es,rfl,ad,aD,h⟩:=h
  simp only[Instr.findAsking,ad,Sem.run_bind,aE l j aH aF,Result.andThen_ok]
  by_cases o7:j=l
  ·subst o7
   simp only[beq_self_eq_true,if_true,Sem.run_pure]
   exact⟨_,rfl,Xp aF ad aD h⟩
  ·have eB:(l==j)=false:=by simp;exact fun e=>o7 e.symm
   simp only[eB,Bool.false_eq_true,if_false]
   obtain⟨r,h1,h2⟩:=YS aE aH w (i+1) h
   exact⟨r,h1,Xq aF o7 ad aD h2⟩
def S3 (P:Program) (n:Nat) (k:TypeId):Prop:=(n=1∧oX P k=true)∨(n=2∧yv P k=true)
theorem M9 {l:List Int} (h:l.length=1):∃a,l=[a]:=by
 match l,h with
 |[a],_=>exact⟨a,rfl⟩
theorem Na {l:List Int} (h:l.length=2):∃a b,l=[a,b]:=by
 match l,h with
 |[a,b],_=>exact⟨a,b,rfl⟩
theorem YT {n:Nat} {k:TypeId} (ad:S3 P n k) {l:List Int} (aH:l.length=n) {rd:Mem} (w:World) {xs:List (List Int×D)} {es:List MapEntry} (h:iY rd n xs es):
 ∃r,(Instr.findKey k (hd l) es).run P w= .ok r w∧u3 rd n xs l es 0 r:=by
 rcases ad with ⟨rfl,ad⟩|⟨rfl,ad⟩
 ·obtain⟨r,h1,h2⟩:=YR (td:= .int .i64) (n:=1) (fun l ky a b=>by
   obtain⟨x,rfl⟩:=M9 a
   obtain⟨y,rfl⟩:=M9 b
   simp[hd,Instr.sameNow]) aH 0 h
  refine⟨r,?_,h2⟩
  unfold Instr.findKey
  simp only[Sem.run_bind,eu (MA ad),Result.andThen_ok,h1,Sem.run_pure]
 ·obtain⟨f,g,hu,_⟩:=Ml ad
  obtain⟨r,h1,h2⟩:=YS (P:=P) (k:=k) (n:=2) (fun l ky a b w=>by
   obtain⟨x,y,rfl⟩:=Na a
   obtain⟨cM,eY,rfl⟩:=Na b
   have:=WY ad x y cM eY w
   simp only[hd,List.map_cons,List.map_nil]
   rw[this]
   congr 1
   simp[List.cons_beq_cons]) aH w 0 h
  refine⟨r,?_,h2⟩
  unfold Instr.findKey
  simp only[Sem.run_bind,eu hu,Result.andThen_ok]
  cases es with
  |nil=>
   cases xs with
   |nil=>
    simp only[Instr.findNow,Sem.run_pure]
    simpa [Instr.findAsking]using h1
   |cons x xs=>obtain⟨_,_⟩:=x;simp[iY]at h
  |cons e es=>
   have:Instr.findNow (.struct #[f,g]) (hd l) (e::es) 0=none:=rfl
   simp only[this]
   exact h1
theorem Yd {n:Nat} {k:TypeId} (ad:S3 P n k) {l:List Int} (aH:l.length=n) (b:Bool) (w:World):(Instr.checkKey b 10000 k (hd l)).run P w= .ok () w:=by
 have bR:∀(m:Nat) {k:TypeId} (x:Int) (w:World),oX P k=true→(Instr.checkKey b (m+1) k (.int .i64 x)).run P w= .ok () w:=fun m k x w ad=>by
  simp only[Instr.checkKey,Sem.run_bind,eu (MA ad),Result.andThen_ok,Sem.run_pure]
 have bS:∀(m:Nat) (x y:Int) (w:World),yv P k=true→(Instr.checkKey b (m+2) k (.agg #[.int .i64 x,.int .i64 y])).run P w= .ok () w:=fun m x y w ad=>by
  obtain⟨f,g,hu,ew,eN,jF,da,i1,i2,_⟩:=Ml ad
  have p1:∀w,(part f.type #[Value.int .i64 x,.int .i64 y] f.offset).run P w= .ok (.int .i64 x) w:=fun w=>D7 i1 (by rw[jF];rfl) w
  have cq:∀w,(part g.type #[Value.int .i64 x,.int .i64 y] g.offset).run P w= .ok (.int .i64 y) w:=fun w=>D7 i2 (by rw[da];rfl) w
  rw[show m+2=(m+1)+1 from rfl,Instr.checkKey]
  simp only[Sem.run_bind,eu hu,Result.andThen_ok]
  simp[ew,eN,p1,cq,bR m x _ i1,bR m y _ i2]
 rcases ad with ⟨rfl,ad⟩|⟨rfl,ad⟩
 ·obtain⟨x,rfl⟩:=M9 aH
  exact bR 9999 x w ad
 ·obtain⟨x,y,rfl⟩:=Na aH
  exact bS 9998 x y w ad
theorem alF {rd:Mem} {e:TypeId} {z:D} (h:SG P e=some z) (w:World):∃v,(zeroValue e).run P w= .ok v w∧bj rd z v:=by
 unfold SG at h
 split at h
 ·rename_i ds cs bp aB
  simp only[Option.some.injEq]at h;subst h
  obtain⟨i,v,hi,vK,ar⟩:=D6 (rd:=rd) bp
  rw[hi]at aB
  simp only[Option.bind_some,vK,Option.some.injEq]at aB
  subst aB
  refine⟨_,AX hi vK w,?_⟩
  simp only[bj]
  exact⟨cs,rfl,ar⟩
 ·rename_i d v aut bp aB
  simp only[Option.some.injEq]at h;subst h
  obtain⟨i,cR,hi,vK,ar⟩:=D6 (rd:=rd) bp
  rw[hi]at aB
  simp only[Option.bind_some,vK,Option.some.injEq]at aB
  subst aB
  refine⟨_,AX hi vK w,?_⟩
  have ay:cR.cells= #[cR]:=by
   cases cR with
   |agg cs=>exact(aut cs rfl).elim
   |_=>rfl
  rw[ay]at ar
  simp only[bP]at ar
  obtain⟨u,us,aN,aX,_⟩:=ar
  simp only[List.cons.injEq]at aN
  rw[aN.1];exact aX
 ·cases h
theorem alG (h:bd N aR aL R σ a w rd β) {o:Oper} {t:TypeId} {m k:Operand} {ok:Bool} (bw:o.op= .lookup t m k ok) {l:bx} (ae:pY P t m k ok=some l) {K:ag→Prop} (ad:bf Γ σ K l):gL P N aR aL R σ a w β o K:=by
 unfold pY at ae
 split at ae
 ·rename_i e eg cX h1 h2 aq
  obtain⟨z,bp,rfl⟩:=map_some ae
  obtain⟨n,e⟩:=e
  obtain⟨LI,hu,gB⟩:=Q3 h1
  have yW:=ez h h2
  have Uz:=ez h aq
  simp only[bf]at ad
  split at ad
  ·rename_i i key aN aX
   rw[aN]at yW
   simp only[aT]at yW
   obtain⟨r,hi,hm⟩:=yW
   obtain⟨OW,_⟩:=ZT aX Uz
   split at ad
   ·rename_i cx ex kZ es aw
    obtain⟨rfl,BP,ad⟩:=ad
    obtain⟨b,cH,c0,_⟩:=h.box i r hi
    rw[aw]at cH
    simp only[Option.some.injEq]at cH;subst cH
    obtain⟨tJ,lr,Jo,SJ⟩:=c0
    obtain⟨dI,f1,f2⟩:=YT (P:=P) gB BP w SJ
    have c:=Yd (P:=P) gB BP tJ.isEmpty w
    obtain⟨zc,eZ,gU⟩:=alF (rd:=rd) bp w
    have bb:(getObj r.bL).run P w= .ok (.map tJ lr) w:=by simp[getObj,Sem.run,Jo]
    unfold u3 at f2
    cases Ky:kc es key with
    |none=>
     rw[Ky]at ad f2
     obtain⟨rfl,_⟩:=f2
     have:(execOp a.eval o).run P w= .ok (.value (if ok then .tuple #[zc,.bool false]else zc)) w:=by
      simp only[execOp,bw,Instr.lookup,hm,OW,Sem.run_bind,eu hu,Result.andThen_ok,bb,Sem.run_pure,c,f1,eZ]
     cases ok with
     |true=>exact iC h ad (by simp only[aT,if_true,bj,bP];exact⟨_,rfl,_,_,rfl,gU,_,_,rfl,rfl,rfl⟩) this
     |false=>exact iC h ad (by simp only[Bool.false_eq_true,if_false];exact pG gU) this
    |some d=>
     rw[Ky]at ad f2
     obtain⟨j,v,rfl,aD,_⟩:=f2
     have:(execOp a.eval o).run P w= .ok (.value (if ok then .tuple #[v,.bool true]else v)) w:=by
      simp only[execOp,bw,Instr.lookup,hm,OW,Sem.run_bind,eu hu,Result.andThen_ok,bb,Sem.run_pure,c,f1]
     cases ok with
     |true=>exact iC h ad (by simp only[aT,if_true,bj,bP];exact⟨_,rfl,_,_,rfl,aD,_,_,rfl,rfl,rfl⟩) this
     |false=>exact iC h ad (by simp only[Bool.false_eq_true,if_false];exact pG aD) this
   ·exact ad.elim
  ·exact ad.elim
 ·cases ae
theorem alH (h:bd N aR aL R σ a w rd β) {o:Oper} {l:bx} (ae:cS P o.type o.op=some l) (ay:l.lX=false) {K:ag→Prop} (ad:bf Γ σ K l):gL P N aR aL R σ a w β o K:=by
 cases bw:o.op with
 |assign x=>rw[bw]at ae;exact aj7 h bw ae ad
 |move x=>rw[bw]at ae;obtain⟨v,aj,rfl⟩:=map_some ae;exact ZQ h (.inl bw) aj ad
 |pick c x y=>rw[bw]at ae;exact alx h bw ae ad
 |alloc e=>
  rw[bw]at ae
  simp only[cS]at ae
  split at ae
  ·simp only[Option.some.injEq]at ae;subst ae;simp only[bf]at ad
  ·obtain⟨z,_,rfl⟩:=map_some ae;simp only[bf]at ad
 |box e x=>rw[bw]at ae;obtain⟨z,_,rfl⟩:=map_some ae;simp only[bf]at ad
 |load t x=>rw[bw]at ae;exact aly h bw ae ad
 |store t x y=>
  rw[bw]at ae
  simp only[cS,qX]at ae
  split at ae
  ·simp only[Option.some.injEq]at ae;subst ae;simp only[bf]at ad
  ·cases ae
 |nilCheck x=>rw[bw]at ae;obtain⟨v,aj,rfl⟩:=map_some ae;exact akA h bw aj ad
 |binOp op t x y s4=>rw[bw]at ae;exact amE h bw ae ad
 |unOp op t x=>rw[bw]at ae;obtain⟨v,aj,rfl⟩:=map_some ae;exact aoi h bw aj ad
 |convert s t x=>rw[bw]at ae;exact alz h bw ae ad
 |fieldAddr s x f=>rw[bw]at ae;exact akB h bw ae ad
 |field s x f=>rw[bw]at ae;exact akC h bw ae ad
 |indexAddr t x i=>rw[bw]at ae;exact akD h bw ae ad
 |index t x i=>rw[bw]at ae;exact amF h bw ae ad
 |extract x i=>rw[bw]at ae;obtain⟨v,aj,rfl⟩:=map_some ae;exact alA h bw aj ad
 |makeFunc f x y=>
  rw[bw]at ae
  cases f with
  |func f=>exact alB h bw ae ad
  |_=>cases ae
 |makeSlice t x y=>
  rw[bw]at ae
  simp only[cS,q2]at ae
  split at ae
  ·split at ae
   ·split at ae
    ·simp only[Option.some.injEq]at ae;subst ae;simp only[bf]at ad
    ·cases ae
   ·cases ae
  ·cases ae
 |slice t x lo hi po=>rw[bw]at ae;exact akE h bw ae ad
 |build t parts=>rw[bw]at ae;exact(ajO h ae ad).done (by simp[execOp,bw])
 |buildSlice t len parts=>rw[bw]at ae;exact aj8 h bw ae ad
 |call c=>
  rw[bw]at ae
  cases c with
  |mk callee args c1=>
   cases callee with
   |builtin b=>exact ajP h bw ae ad
   |invoke r m=>
    simp only[cS,l0]at ae
    split at ae
    ·simp only[Option.some.injEq]at ae;subst ae;simp[bx.lX]at ay
    ·cases ae
   |value x=>
    simp only[cS,l0]at ae
    split at ae
    ·rename_i e;cases e
    ·rename_i P6 Kz
     simp only[Callee.value.injEq]at Kz
     subst Kz
     split at ae
     ·rename_i n aJ
      cases aB:iX P c1.toList args.toList with
      |none=>rw[aB]at ae;cases ae
      |some bm=>
       rw[aB]at ae
       obtain⟨x,rfl,⟨rfl,rfl⟩|⟨rfl,rfl⟩⟩:=MB (show Bq n bm=some l from ae)
       ·simp only[bf]at ad
       ·exact akF h bw aJ aB ad
     ·obtain⟨v,aj,rfl⟩:=map_some ae;simp[bx.lX]at ay
    ·split at ae
     ·simp only[Option.some.injEq]at ae;subst ae;simp[bx.lX]at ay
     ·cases ae
    ·rename_i e;cases e
 |panic x=>rw[bw]at ae;have:bx.bad=l:=Option.some.inj ae;subst this;simp only[bf]at ad
 |makeInterface t x=>rw[bw]at ae;exact amG h bw ae ad
 |makeMap t r=>
  rw[bw]at ae
  simp only[cS,pP]at ae
  split at ae
  ·simp only[Option.some.injEq]at ae;subst ae;simp only[bf]at ad
  ·simp only[Option.some.injEq]at ae;subst ae;simp only[bf]at ad
  ·cases ae
 |lookup t m k ok=>rw[bw]at ae;exact alG h bw ae ad
 |mapUpdate t m k x=>
  rw[bw]at ae
  simp only[cS,k5]at ae
  split at ae
  ·obtain⟨v,_,rfl⟩:=map_some ae;simp only[bf]at ad
  ·cases ae
 |insert t m k x=>
  rw[bw]at ae
  simp only[cS,k5]at ae
  split at ae
  ·obtain⟨v,_,rfl⟩:=map_some ae;simp only[bf]at ad
  ·cases ae
 |_=>rw[bw]at ae;cases ae
end
end RV
namespace RV
open Go Go.RowKit
def A5 (P:Program) (f:Nat):Prop:=∃fn,P.funcs[f]? =some fn∧(fn.name== "runtime.NumGoroutine")=false∧fn.body.isNone=false
def RN (w w':World) (d:D) (v:Value):Prop:=
 ∃c n A cap,jr d=some (c,n)∧v= .slice A n cap∧n≤cap∧((n=0∧cap=0)∨
  ∃r:cY,r.whole=true∧w.heap.size≤r.bL∧tK w' r∧e7 w' (fun _=>none) (fun _=>none) r c∧A=some (cellAt r.bL r.off)∧cap*r.sz≤r.len)
def Bt (C:br) (rd:Mem) (w w':World) (d:D) (v:Value):Prop:=
 (C.own=false→bj (ke w w' rd) d v)∧(C.own=true→RN w w' d v)
theorem Bt.rep {C:br} {rd:Mem} {w w':World} {d:D} {v:Value} (h:Bt C rd w w' d v):bj (ke w w' rd) d v:=by
 cases ay:C.own with
 |false=>exact h.1 ay
 |true=>
  obtain⟨c,n,A,cap,aD,rfl,aJ,hA⟩:=h.2 ay
  have GJ:∀{r:cY},w.heap.size≤r.bL→∀i,ke w w' rd (cellAt r.bL i)=w'.cell? (cellAt r.bL i):=fun {r} ar i=>by
   unfold ke
   exact if_neg (fun bl=>by simp only[cellAt]at bl;omega)
  cases d with
  |ints k xs=>
   simp only[jr,Option.some.injEq,Prod.mk.injEq]at aD
   obtain⟨rfl,rfl⟩:=aD
   simp only[bj]
   refine⟨A,cap,rfl,aJ,?_⟩
   rcases hA with ⟨h0,_⟩|⟨r,_,ar,_,aw,hA,_⟩
   ·exact .inl (List.eq_nil_of_length_eq_zero h0)
   ·exact .inr ⟨r.bL,r.off,hA,gX.cells (fun i _ _=>GJ ar i) aw.2.2⟩
  |flts xs=>
   simp only[jr,Option.some.injEq,Prod.mk.injEq]at aD
   obtain⟨rfl,rfl⟩:=aD
   simp only[bj]
   refine⟨A,cap,rfl,aJ,?_⟩
   rcases hA with ⟨h0,_⟩|⟨r,_,ar,_,aw,hA,_⟩
   ·exact .inl (List.eq_nil_of_length_eq_zero h0)
   ·exact .inr ⟨r.bL,r.off,hA,gY.cells (fun i _ _=>GJ ar i) aw.2.2⟩
  |_=>simp[jr]at aD
def l8 (P:Program) (B:Mem) (f:Nat) (C:br):Prop:=
 A5 P f∧∀ds,C.pre ds→∀w rd vs,b3 B rd→b3 rd w.cell?→bP rd ds vs.toList→
  Calls P f vs w fun e w'=>∃v,e= .returned v∧Below w.heap.size w w'∧Bt C rd w w' (C.res ds) v
def aat (P:Program) (B:Mem) (Γ:Env):Prop:=∀f C,Γ.fn f=some C→l8 P B f C
mutual
theorem YU {m eg:Mem} :∀(d:D) (v:Value),d.flat=true→bj m d v→bj eg d v
 | .bool _,_,_,H=>by simpa only[bj]using H
 | .int _ _,_,_,H=>by simpa only[bj]using H
 | .flt _,_,_,H=>by simpa only[bj]using H
 | .ints _ _,_,h,_=>by simp[D.flat]at h
 | .flts _,_,h,_=>by simp[D.flat]at h
 | .recs _ _,_,h,_=>by simp[D.flat]at h
 | .ptr _,_,h,_=>by simp[D.flat]at h
 | .agg cs,_,h,H=>by
   simp only[bj]at*
   obtain⟨vs,e,H⟩:=H
   exact⟨vs,e,Q4 cs _ (by simpa [D.flat]using h) H⟩
 | .du cs,_,h,H=>by
   simp only[bj]at*
   obtain⟨vs,e,H⟩:=H
   exact⟨vs,e,Q4 cs _ (by simpa [D.flat]using h) H⟩
 | .fn _ _ _,_,h,_=>by simp[D.flat]at h
 | .nilfn,_,h,_=>by simp[D.flat]at h
 | .nilp,_,h,_=>by simp[D.flat]at h
theorem Q4 {m eg:Mem} :∀(ds:List D) (vs:List Value),D.CR ds=true→bP m ds vs→bP eg ds vs
 |[],_,_,H=>by simpa only[bP]using H
 |d::ds,_,h,H=>by
  simp only[D.CR,Bool.and_eq_true]at h
  simp only[bP]at*
  obtain⟨v,us,e,h1,h2⟩:=H
  exact⟨v,us,e,YU d v h.1 h1,Q4 ds us h.2 h2⟩
end
section
variable {N:Nat} {aR:e3} {aL:Mem} {R:bU} {σ σ':St} {a:Act} {w:World} {rd:Mem} {β β':bU} {P:Program} {Γ:Env}
theorem Rm {cf:World} (aw:Below w.heap.size w cf) {m:Mem} (h:b3 m w.cell?):b3 m cf.cell? :=fun aP v e=>by
 rw[th (aw.block _ (AP (h aP v e)))];exact h aP v e
theorem amH {cf:World} (aw:Below w.heap.size w cf) {m:Mem} (h:b3 m w.cell?):b3 (ke w cf m) cf.cell? :=fun aP v e=>by
 unfold ke at e
 split at e
 ·exact Rm aw h aP v e
 ·exact e
theorem amI {cf:World} {m:Mem} (h:b3 m w.cell?):b3 m (ke w cf m):=fun aP v e=>by
 simp[ke,AP (h aP v e),e]
theorem bd.fresh (h:bd N aR aL R σ a w rd β) {cf:World} (aw:Below w.heap.size w cf):bd N aR aL R σ a cf (ke w cf rd) β:=
 h.more aw (amI h.dg) (amH aw h.dg) fun aP v e aH=>by simpa [ke,aH]using e
theorem bd.below (h:bd N aR aL R σ a w rd β) {cf:World} (aw:Below w.heap.size w cf):bd N aR aL R σ a cf rd β:=
 h.more aw (b3.refl _) (Rm aw h.dg) fun _ _ e _=>e
theorem L8 {f:Nat} (bb:A5 P f) (vs:Array Value) (w:World):(callFunc f vs).run P w= .ok (.enter f vs) w:=by
 obtain⟨fn,h1,h2,aq⟩:=bb
 have UA:¬fn.name= "runtime.NumGoroutine" :=by simpa using h2
 have auu:¬fn.body=none:=fun e=>by rw[e]at aq;cases aq
 simp[callFunc,h1,UA,auu]
theorem Ep {o:Oper} {f:Nat} {C:br} (hf:l8 P aL f C) {vs:Array Value} (ar:(execOp a.eval o).run P w= .ok (.enter f vs) w) {m:Mem} (ai:b3 aL m) (hm:b3 m w.cell?) {ds:List D} (aQ:C.pre ds)
 (aD:bP m ds vs.toList) {next:Act→World→Prop} {Q:Exit→Act→World→Prop} (aJ:∀v cf,Below w.heap.size w cf→Bt C m w cf (C.res ds) v→next (a.put o.dst v) cf):o.wp P a w next Q:=by
 unfold Oper.wp
 rw[ar,Oper.upon_enter]
 refine(hf.2 ds aQ w m vs ai hm aD).mono ?_
 rintro e cf ⟨v,rfl,h1,h2⟩
 exact aJ v cf h1 h2
theorem Q5 {o:Oper} {f:Nat} {args:Array Operand} {c1:Array TypeId} (bw:o.op= .call { callee:= .value (.func f),args,argTypes:=c1 }) (bb:A5 P f):
 (execOp a.eval o).run P w= .ok (.enter f (args.map a.eval)) w:=by
 simp[execOp,bw,resolve,Act.eval,Deferred.ofValue,invoke,L8 bb]
theorem Mm {o:Oper} {x:Operand} {f:Nat} {gd vc:Array Value} {args:Array Operand} {c1:Array TypeId} (bw:o.op= .call { callee:= .value x,args,argTypes:=c1 }) (aj:a.eval x= .func (.func f) gd vc) (bb:A5 P f):
 (execOp a.eval o).run P w= .ok (.enter f (gd++args.map a.eval++vc)) w:=by
 simp[execOp,bw,resolve,aj,Deferred.ofValue,invoke,L8 bb]
theorem D8 {m:Mem} :∀{ds es:List D} {vs us:List Value},bP m ds vs→bP m es us→bP m (ds++es) (vs++us)
 |[],es,vs,us,h,k=>by simp only[bP]at h;simpa [h]using k
 |d::ds,es,vs,us,h,k=>by
  simp only[bP,List.cons_append]at*
  obtain⟨v,yT,rfl,h1,h2⟩:=h
  exact⟨v,yT++us,rfl,h1,D8 h2 k⟩
theorem YV {m eg:Mem} {d:D} {v:Value} (hf:d.flat=true) (h:bj m d v):aT eg β (c3 d) v:=pG (YU d v hf h)
theorem XJ:∀{ds:List D} {vs:List Value},bY rd β (ds.map .d) vs→bP rd ds vs
 |[],vs,h=>by simpa only[List.map_nil,bY,bP]using h
 |d::ds,vs,h=>by
  simp only[List.map_cons,bY,aT]at h
  obtain⟨v,us,rfl,h1,h2⟩:=h
  simp only[bP]
  exact⟨v,us,rfl,h1,XJ h2⟩
theorem alI {cs:List D} {vs:Array Value} {t:TypeId} {n off:Nat} {g:Bool} (ae:p3 P t=some (n,g)) (aB:bP rd cs vs.toList) {r:D} (aE:tC (some (off,n,g)) (.agg cs)=some r):
 ∃u,bj rd r u∧∀w,(part t vs off).run P w= .ok u w:=by
 have BQ:bY rd (fun _=>none) (cs.map .d) vs.toList:=AJ aB
 cases g with
 |true=>
  simp only[tC]at aE
  split at aE
  ·rename_i hle
   simp only[Option.some.injEq]at aE;subst aE
   obtain⟨av,u,h1,h2,aq⟩:=MP ae BQ (off:=off) (K:=fun av=>av= .agg (((cs.map ag.d).drop off).take n)) (by simp;exact hle)
   subst h1
   simp only[aT]at h2
   obtain⟨us,rfl,h2⟩:=h2
   refine⟨_,?_,aq⟩
   simp only[bj]
   refine⟨us,rfl,XJ (β:=fun _=>none) ?_⟩
   rw[List.map_take,List.map_drop];exact h2
  ·cases aE
 |false=>
  simp only[tC]at aE
  obtain⟨av,u,h1,h2,aq⟩:=MP ae BQ (off:=off) (K:=fun av=>av= .d r) (by simp[aE])
  subst h1
  simp only[aT]at h2
  exact⟨u,h2,aq⟩
theorem akG {t f:Nat} {name:String} {kq:Option (Nat×Nat×Bool)} (ar:rowOf P t name=some (f,kq)) {d r:D} {v:Value} (aD:bj rd d v) (aE:tC kq d=some r) (fuel:Nat) (w:World):
 ∃bc,(method (fuel+1) t v name).run P w= .ok (f,bc) w∧bj rd r bc:=by
 unfold rowOf at ar
 split at ar
 ·rename_i i u hi hu
  split at ar
  ·cases ar
  ·cases ar
  ·rename_i aAh aAi
   split at ar
   ·rename_i m hm
    split at ar
    ·rename_i P6 hf
     split at ar
     ·rename_i aQ
      simp only[Option.some.injEq,Prod.mk.injEq]at ar
      obtain⟨rfl,rfl⟩:=ar
      simp only[tC,Option.some.injEq]at aE;subst aE
      refine⟨v,?_,aD⟩
      unfold method
      simp only[Sem.run_bind,MN hi,Result.andThen_ok,hm,aQ,follow,Sem.run_pure,hf]
      have:(receiverAt t (.val v) false (if m.path.isEmpty=true then some ((name.splitOn ".").getLastD name)else none)).run P w= .ok v w:=by
       unfold receiverAt
       simp only[Sem.run_bind,eu hu,Result.andThen_ok]
       rfl
      simp only[this,Result.andThen_ok]
     ·rename_i s aQ
      split at ar
      ·cases ar
      ·rename_i ay
       simp only[Bool.or_eq_true,bne_iff_ne,ne_eq,not_or,Bool.not_eq_true,Decidable.not_not]at ay
       obtain⟨bR,bS⟩:=ay
       split at ar
       ·rename_i fs
        split at ar
        ·rename_i fd UB
         split at ar
         ·cases ar
         ·cases ar
         ·rename_i pq azm azn kr
          split at ar
          ·rename_i n g auv
           simp only[Option.some.injEq,Prod.mk.injEq]at ar
           obtain⟨rfl,rfl⟩:=ar
           cases d with
           |agg cs=>
            simp only[bj]at aD
            obtain⟨vs,rfl,aD⟩:=aD
            obtain⟨bc,h1,h2⟩:=alI auv aD aE
            refine⟨bc,?_,h1⟩
            unfold method
            rw[←bS]at hu hi
            simp only[←bS,Sem.run_bind,MN hi,Result.andThen_ok,hm,aQ,follow,eu hu,UB,bR,Bool.false_eq_true,if_false,h2,Sem.run_pure,hf]
            have:∀LG,(receiverAt fd.type (.val bc) false LG).run P w= .ok bc w:=fun LG=>by
             unfold receiverAt
             simp only[Sem.run_bind,eu kr,Result.andThen_ok]
             rfl
            simp only[this,Result.andThen_ok]
           |_=>cases g<;>simp[tC]at aE
          ·cases ar
         ·cases ar
        ·cases ar
       ·cases ar
     ·cases ar
    ·cases ar
   ·cases ar
 ·cases ar
theorem Q6 {name:String} {t f:Nat} {kq:Option (Nat×Nat×Bool)} :∀{l:List Nat},u9 (l.filterMap fun t=>(rowOf P t name).map fun r=>(t,r)) t=some (f,kq)→rowOf P t name=some (f,kq)
 |[],h=>by simp[u9]at h
 |u::l,h=>by
  simp only[List.filterMap_cons]at h
  cases hu:rowOf P u name with
  |none=>rw[hu]at h;exact Q6 h
  |some r=>
   rw[hu]at h
   simp only[Option.map_some,u9]at h
   split at h
   ·rename_i e;subst e;rw[hu];exact h
   ·exact Q6 h
theorem Ye {o:Oper} {r:Operand} {name:String} {args:Array Operand} {c1:Array TypeId} (bw:o.op= .call { callee:= .invoke r name,args:=args,argTypes:=c1 }) {t f:Nat} {kq:Option (Nat×Nat×Bool)}
 (Dt:u9 (rowsOf P name) t=some (f,kq)) {u:Value} (hu:a.eval r= .iface t u) {d j4:D} (aD:bj rd d u) (aE:tC kq d=some j4):
 ∃bc,(A5 P f→(execOp a.eval o).run P w= .ok (.enter f (#[bc]++args.map a.eval)) w)∧bj rd j4 bc:=by
 have hM:=Q6 (l:=List.range P.types.size) Dt
 obtain⟨bc,h1,h2⟩:=akG hM aD aE (P.types.size+99) w
 refine⟨bc,fun bb=> ?_,h2⟩
 have h1:(method (P.types.size+Made.depth) t u name).run P w= .ok (f,bc) w:=h1
 have ay:=L8 bb (#[bc]++args.map a.eval) w
 have b8:(#[Value.iface t u]++args.map a.eval)[0]? =some (.iface t u):=by simp[Array.getElem?_append]
 have aN:(#[Value.iface t u]++args.map a.eval).extract 1 (#[Value.iface t u]++args.map a.eval).size=args.map a.eval:=by
  apply Array.ext'
  simp only[Array.toList_extract,Array.toList_append,Array.size_append]
  simp
  exact List.take_of_length_le (by simp)
 simp only[execOp,bw,resolve,hu,Sem.run_bind,Sem.run_pure,Result.andThen_ok,invoke,b8,aN,callMethod,run_program,h1,ay]
theorem akH (c6:aat P aL Γ) (h:bd N aR aL R σ a w rd β) {o:Oper} {l:bx} (ae:cS P o.type o.op=some l) (ay:l.lX=true) {K:ag→Prop} (ad:bf Γ σ K l)
 (lx:∀x bm,l= .hJ x bm→∀f u v,σ.aU x≠ .dk f u v)
 {next:Act→World→Prop} {Q:Exit→Act→World→Prop} (aJ:∀av u w' rd',K av→bd N aR aL R σ a w' rd' β→aT rd' β av u→next (a.put o.dst u) w'):o.wp P a w next Q:=by
 have fin:∀{f:Nat} {C:br} {vs:Array Value} {bm:List ag} {us:List Value} {ds pre post:List D} {vp Wd:List Value},l8 P aL f C→toDs σ bm=some ds→bY rd β bm us→bP rd pre vp→bP rd post Wd→
  vs.toList=vp++us++Wd→(execOp a.eval o).run P w= .ok (.enter f vs) w→C.pre (pre++ds++post)→((C.res (pre++ds++post)).flat=true∨ag.g8 bm=true)→K (c3 (C.res (pre++ds++post)))→o.wp P a w next Q:=by
  intro f C vs bm us ds pre post vp Wd gV hq has N7 oU BR ar aQ OX ad
  rcases OX with UC|jv
  ·have aD:=toDs_rep h (S:=jn β bm) bm us ds hq has fun i r aP hi ec fC=>⟨i,r,hi,ec,fC⟩
   refine Ep gV ar (m:=plus w (jn β bm) rd) (h.dR.trans (oM _ _ _)) (yd h.dg) aQ (by rw[BR];exact D8 (D8 (N7.mono (oM _ _ _) _ _) aD) (oU.mono (oM _ _ _) _ _)) ?_
   intro v cf aw aB
   exact aJ _ v cf rd ad (h.below aw) (YV UC aB.rep)
  ·have aD:=AR h jv hq has
   refine Ep gV ar h.dR h.dg aQ (by rw[BR];exact D8 (D8 N7 aD) oU) ?_
   intro v cf aw aB
   exact aJ _ v cf _ ad (h.fresh aw) (pG aB.rep)
 have S4:bP rd [] []:=by simp only[bP]
 cases bw:o.op with
 |call c=>
  rw[bw]at ae
  cases c with
  |mk callee args c1=>
   have hJ:∀x cM bm,dA P x=some cM→iX P c1.toList args.toList=some bm→o.op= .call { callee:= .value x,args,argTypes:=c1 }→(∀f u v,σ.aU cM≠ .dk f u v)→bf Γ σ K (.hJ cM bm)→o.wp P a w next Q:=by
    intro x cM bm aj has bw lx ad
    have cQ:=ez h aj
    simp only[bf]at ad
    split at ad
    ·rename_i f fst cap e
     rw[e]at cQ
     simp only[aT,bj]at cQ
     obtain⟨gd,vc,hu,bA,bX⟩:=cQ
     split at ad
     ·rename_i ds C hq gV
      have c0:=c6 f C gV
      exact fin c0 hq (qP h has) bA bX (by simp) (Mm bw hu c0.1) ad.1 ad.2.1 ad.2.2
     ·exact ad.elim
    ·rename_i e
     exact absurd e (lx _ _ _)
    ·exact ad.elim
   cases callee with
   |builtin b=>
    exfalso
    simp only[cS,l0,pD]at ae
    split at ae
    ·split at ae
     ·obtain⟨v,_,rfl⟩:=map_some ae;simp[bx.lX]at ay
     ·cases ae
    ·split at ae
     ·simp only[Option.some.injEq]at ae;subst ae;simp[bx.lX]at ay
     ·cases ae
    ·split at ae
     ·simp only[Option.some.injEq]at ae;subst ae;simp[bx.lX]at ay
     ·cases ae
    ·split at ae
     ·split at ae
      ·simp only[Option.some.injEq]at ae;subst ae;simp[bx.lX]at ay
      ·cases ae
     ·cases ae
    ·split at ae
     ·split at ae
      ·simp only[Option.some.injEq]at ae;subst ae;simp[bx.lX]at ay
      ·cases ae
     ·cases ae
    ·cases ae
   |invoke r m=>
    simp only[cS,l0]at ae
    split at ae
    ·rename_i cM bm aj has
     simp only[Option.some.injEq]at ae;subst ae
     have cQ:=ez h aj
     simp only[bf]at ad
     split at ad
     ·rename_i t d e
      rw[e]at cQ
      simp only[aT,bj]at cQ
      obtain⟨u,hu,aD⟩:=cQ
      split at ad
      ·rename_i f kq Dt
       split at ad
       ·rename_i j4 ds C uu hq gV
        have c0:=c6 f C gV
        obtain⟨bc,h1,h2⟩:=Ye (w:=w) bw Dt hu aD uu
        exact fin (pre:=[j4]) (post:=[]) (vp:=[bc]) (vs:= #[bc]++args.map a.eval) c0 hq (qP h has) (by simp only[bP];exact⟨_,_,rfl,h2,rfl⟩) S4 (by simp) (h1 c0.1) (by simpa using ad.1) (by simpa using ad.2.1) (by simpa using ad.2.2)
       ·exact ad.elim
      ·exact ad.elim
     ·exact ad.elim
    ·cases ae
   |value x=>
    simp only[cS,l0]at ae
    split at ae
    ·rename_i e;cases e
    ·rename_i f e
     simp only[Callee.value.injEq]at e
     subst e
     split at ae
     ·exfalso
      rename_i n aJ
      cases aB:iX P c1.toList args.toList with
      |none=>rw[aB]at ae;cases ae
      |some bm=>
       rw[aB]at ae
       obtain⟨x,rfl,⟨rfl,rfl⟩|⟨rfl,rfl⟩⟩:=MB (show Bq n bm=some l from ae)<;>simp[bx.lX]at ay
     obtain⟨bm,has,rfl⟩:=map_some ae
     simp only[bf]at ad
     split at ad
     ·rename_i ds C hq gV
      have c0:=c6 f C gV
      exact fin (pre:=[]) (post:=[]) c0 hq (qP h has) S4 S4 (by simp) (Q5 bw c0.1) (by simpa using ad.1) (by simpa using ad.2.1) (by simpa using ad.2.2)
     ·exact ad.elim
    ·rename_i cM eB e
     simp only[Callee.value.injEq]at e
     subst e
     split at ae
     ·rename_i cM bm aj has
      simp only[Option.some.injEq]at ae;subst ae
      exact hJ _ _ _ aj has bw (lx _ _ rfl) ad
     ·cases ae
    ·rename_i e;cases e
 |makeFunc f x y=>
  exfalso
  rw[bw]at ae
  cases f with
  |func f=>
   simp only[cS,pX]at ae
   split at ae
   ·simp only[Option.some.injEq]at ae;subst ae;simp[bx.lX]at ay
   ·cases ae
  |_=>cases ae
 |_=>
  exfalso
  rw[bw]at ae
  first
   |(cases ae;done)
   |(obtain⟨v,_,rfl⟩:=map_some ae;simp[bx.lX]at ay;done)
   |(have:=Option.some.inj ae;subst this;simp[bx.lX]at ay;done)
   |(simp only[cS,pF,pU,pV,qX,p4,pW,pJ,pK,pL,pM,q2,pN,pO,p5,pP,pY,k5,p6]at ae
     repeat' (split at ae)
     all_goals first
      |(cases ae;done)
      |(obtain⟨v,_,rfl⟩:=map_some ae;simp[bx.lX]at ay;done)
      |(simp only[Option.some.injEq]at ae;subst ae;simp[bx.lX]at ay;done))
end
end RV
namespace RV
open Go Go.RowKit
section
variable {N:Nat} {aR:e3} {aL:Mem} {R:bU} {σ σ':St} {a:Act} {w:World} {rd:Mem} {β β':bU} {P:Program} {Γ:Env}
def ja (w:World) (n sz:Nat):cY:=⟨w.heap.size,0,n,sz,true⟩
def fN (β:bU) (i:Nat) (r:Option cY):bU:=fun j=>if j=i then r else β j
theorem YW (w:World) (arr:Array Value) (e:TypeId) (sz:Nat):tK (w.alloc (.cells arr e)) (ja w arr.size sz):=
 ⟨arr,e,(0,0),Array.getElem?_push_size,by simp[ja],fun o _ _=>by simp,fun _=>⟨rfl,rfl,rfl⟩⟩
theorem Rn (w:World) (arr:Array Value) (e:TypeId) (j:Nat):(w.alloc (.cells arr e)).cell? (cellAt w.heap.size j)=arr[j]? :=World.cell?_alloc_new _ _ _ _
theorem c5.ye {w':World} {b:Nat} :∀{cs:List ag} {vs:List Value} {o:Nat},bY rd β cs vs→(∀j,j<vs.length→w'.cell? (cellAt b (o+j))=vs[j]?)→c5 w' rd β b o cs
 |[],_,_,_,_=>trivial
 |c::cs,vs,o,h,ay=>by
  simp only[bY]at h
  obtain⟨v,us,rfl,h1,h2⟩:=h
  refine⟨⟨v,by simpa using ay 0 (by simp),h1⟩,c5.ye h2 fun j aF=> ?_⟩
  have:=ay (j+1) (by simpa using aF)
  rw[show o+1+j=o+(j+1)by omega]
  simpa using this
mutual
theorem aT.ext (hg:∀j r,β j=some r→β' j=some r):∀(x:ag) (v:Value),aT rd β x v→aT rd β' x v
 | .d x,_,H=>by simpa only[aT]using H
 | .agg cs,_,H=>by
   simp only[aT]at*
   obtain⟨vs,e,H⟩:=H
   exact⟨vs,e,bY.ext hg cs _ H⟩
 | .box i _,_,H=>by
   simp only[aT]at*
   obtain⟨r,h1,h2⟩:=H
   exact⟨r,hg _ _ h1,h2⟩
 | .own i _ _,_,H=>by
   simp only[aT]at*
   obtain⟨A,cap,h1,h2,aq⟩:=H
   exact⟨A,cap,h1,h2,aq.imp id fun⟨r,bh,bB⟩=>⟨r,hg _ _ bh,bB⟩⟩
 | .eo i _ _,_,H=>by
   simp only[aT]at*
   obtain⟨r,h1,h2⟩:=H
   exact⟨r,hg _ _ h1,h2⟩
 | .mp i,_,H=>by
   simp only[aT]at*
   obtain⟨r,h1,h2⟩:=H
   exact⟨r,hg _ _ h1,h2⟩
 | .dk _ x y,_,H=>by
   simp only[aT]at*
   obtain⟨gd,vc,e,H1,fb⟩:=H
   exact⟨gd,vc,e,bY.ext hg x _ H1,bY.ext hg y _ fb⟩
 | .dv _,_,H=>by simpa only[aT]using H
 | .dB,_,H=>by simpa only[aT]using H
 | .any,_,_=>by simp only[aT]
theorem bY.ext (hg:∀j r,β j=some r→β' j=some r):∀(xs:List ag) (vs:List Value),bY rd β xs vs→bY rd β' xs vs
 |[],_,H=>by simpa only[bY]using H
 |x::xs,_,H=>by
  simp only[bY]at*
  obtain⟨v,us,e,h1,h2⟩:=H
  exact⟨v,us,e,aT.ext hg x v h1,bY.ext hg xs us h2⟩
end
structure EW (σ σ':St) (i:Nat) (b:cm) (rd:Mem) (β:bU) (f:ag→ag):Prop where
 rep:∀r x v,aT rd β x v→aT rd (fN β i r) (f x) v
 af:σ'.af=fun t=>f (σ.af t)
 aA:∀j,σ'.aA j=if j=i then some b else (σ.aA j).map (cm.gK f)
theorem tj (σ:St) (i:Nat) (b:cm):EW σ (σ.fresh i b) i b rd β (ag.kill i):=
 ⟨fun r x v h=>aT.kill (fun j aF=>by simp[fN,aF]) h,rfl,fun j=>by
  simp only[St.fresh,lb]
  split
  ·rfl
  ·cases σ.aA j with
   |none=>rfl
   |some b=>simp[cm.CI]⟩
theorem aj9 (h:bd N aR aL R σ a w rd β) {i:Nat} (hi:σ.aA i=none) (b:cm):EW σ (σ.ea i b) i b rd β (fun v=>v):=
 ⟨(fun r x v aj=>by
   have hg:β i=none:=by
    cases e:β i with
    |none=>rfl
    |some r=>obtain⟨b,aw,_⟩:=h.box i r e;rw[hi]at aw;cases aw
   refine aT.ext (fun j r' aF=> ?_) _ _ aj
   by_cases e:j=i
   ·subst e;rw[hg]at aF;cases aF
   ·simpa [fN,e]using aF),rfl,fun j=>by
   simp only[St.ea,lb]
   split
   ·rfl
   ·cases σ.aA j with
    |none=>rfl
    |some b=>simp[cm.aoe]⟩
theorem Nb (h:bd N aR aL R σ a w rd β) {i:Nat} {cs:List ag} {arr:Array Value} {e:TypeId} {f:ag→ag} (ar:EW σ σ' i ⟨false,false,.cells cs⟩ rd β f)
 (fR:bY rd (fN β i (some (ja w arr.size 1))) cs arr.toList):
 bd N aR aL R σ' a (w.alloc (.cells arr e)) rd (fN β i (some (ja w arr.size 1))):=by
 refine h.new (i:=i) (b:=⟨false,false,.cells cs⟩) rfl (r:=ja w arr.size 1) rfl rfl (ar.rep _) ar.af ar.aA ?_ (.of (YW _ _ _ _) rfl)
 refine⟨by have:=AF fR;simp at this;simp[ja,this],?_⟩
 refine c5.ye fR fun j aF=> ?_
 show (w.alloc (.cells arr e)).cell? (cellAt w.heap.size (0+j))=_
 rw[Nat.zero_add,Rn,Array.getElem?_toList]
theorem gX.Is {m:Mem} {k:IntKind} {b:Nat} :∀{xs:List Int} {o:Nat},(∀j x,xs[j]? =some x→m (cellAt b (o+j))=some (.int k x))→gX m k b o xs
 |[],_,_=>trivial
 |x::xs,o,h=>⟨by simpa using h 0 x rfl,gX.Is fun j y aF=>by
   have:=h (j+1) y (by simpa using aF)
   rw[show o+1+j=o+(j+1)by omega];exact this⟩
theorem gY.Is {m:Mem} {b:Nat} :∀{xs:List Nat} {o:Nat},(∀j x,xs[j]? =some x→∃y,m (cellAt b (o+j))=some (.float .f64 y)∧eL y=x)→gY m b o xs
 |[],_,_=>trivial
 |x::xs,o,h=>⟨by simpa using h 0 x rfl,gY.Is fun j y aF=>by
   have:=h (j+1) y (by simpa using aF)
   rw[show o+1+j=o+(j+1)by omega];exact this⟩
theorem dd.ye {w':World} {b:Nat} :∀{ds:List D} {vs:List Value} {o:Nat},bP rd ds vs→(∀j v,vs[j]? =some v→w'.cell? (cellAt b (o+j))=some v)→dd w' rd b o ds
 |[],_,_,_,_=>trivial
 |d::ds,vs,o,h,ay=>by
  simp only[bP]at h
  obtain⟨v,us,rfl,h1,h2⟩:=h
  refine⟨⟨v,by simpa using ay 0 v rfl,h1⟩,dd.ye h2 fun j u aF=> ?_⟩
  have:=ay (j+1) u (by simpa using aF)
  rw[show o+1+j=o+(j+1)by omega];exact this
theorem hX.replicate {w':World} {b sz:Nat} {z:List D} (bp:z.length=sz):∀{n o:Nat},(∀q,q<n→dd w' rd b (o+q*sz) z)→hX w' rd b sz o (List.replicate n z)
 |0,_,_=>trivial
 |n+1,o,h=>by
  rw[List.replicate_succ]
  refine⟨bp,by simpa using h 0 (by omega),hX.replicate bp fun q aO=> ?_⟩
  have:=h (q+1) (by omega)
  rw[show o+sz+q*sz=o+(q+1)*sz by rw[Nat.succ_mul];omega];exact this
theorem alJ {z:Array Value} {n size j:Nat} {v:Value} (aE:z.size=size) (aF:j<n*size) (aB:z[j % size]? =some v):((Array.range (n*size)).map (z[· % z.size]!))[j]? =some v:=by
 have bl:j % size<z.size:=by
  rcases Nat.lt_or_ge (j % size) z.size with h|h
  ·exact h
  ·rw[Array.getElem?_eq_none h]at aB;cases aB
 rw[Array.getElem?_map,Array.getElem?_range]
 simp only[aF,if_true,Option.map_some,Option.some.injEq,aE]
 rw[getElem!_pos z _ bl]
 rw[Array.getElem?_eq_getElem bl]at aB
 simpa using aB
theorem alK {ek:dM} {z:List D} {zs:Array Value} {n:Nat} {c:BC} (ay:tu ek z n=some c) (bp:bP rd z zs.toList) (fQ:zs.size=ek.sz) {w':World} {r:cY} (ar:r.sz=ek.sz) (aH:n*ek.sz≤r.len)
 (fr:∀j v,j<n*ek.sz→zs[j % ek.sz]? =some v→w'.cell? (cellAt r.bL (r.off+j))=some v):e7 w' rd β r c:=by
 unfold tu at ay
 split at ay
 ·rename_i k cX
  split at ay
  ·rename_i ad
   subst ad
   simp only[Option.some.injEq]at ay;subst ay
   simp only[bP,bj]at bp
   obtain⟨v,us,aB,rfl,rfl⟩:=bp
   simp only[dM.sz]at*
   refine⟨ar,by simpa using aH,gX.Is fun j x aF=> ?_⟩
   have bl:j<n:=by
    rcases Nat.lt_or_ge j n with h|h
    ·exact h
    ·rw[List.getElem?_eq_none (by simpa using h)]at aF;cases aF
   rw[List.getElem?_replicate]at aF
   simp only[bl,if_true,Option.some.injEq]at aF
   subst aF
   refine fr j _ (by omega) ?_
   rw[Nat.mod_one,←Array.getElem?_toList,aB];rfl
  ·cases ay
 ·simp only[Option.some.injEq]at ay;subst ay
  simp only[bP,bj]at bp
  obtain⟨v,us,aB,⟨y,rfl,hy⟩,rfl⟩:=bp
  simp only[dM.sz]at*
  refine⟨ar,by simpa using aH,gY.Is fun j x aF=> ?_⟩
  have bl:j<n:=by
   rcases Nat.lt_or_ge j n with h|h
   ·exact h
   ·rw[List.getElem?_eq_none (by simpa using h)]at aF;cases aF
  rw[List.getElem?_replicate]at aF
  simp only[bl,if_true,Option.some.injEq]at aF
  subst aF
  refine⟨y,fr j _ (by omega) ?_,hy⟩
  rw[Nat.mod_one,←Array.getElem?_toList,aB];rfl
 ·rename_i sz
  split at ay
  ·rename_i GK
   simp only[Option.some.injEq]at ay;subst ay
   simp only[dM.sz]at*
   refine⟨ar,by simpa using aH,hX.replicate GK fun q aO=> ?_⟩
   refine dd.ye bp fun j v aF=> ?_
   have o7:j<sz:=by
    rcases Nat.lt_or_ge j sz with h|h
    ·exact h
    ·rw[List.getElem?_eq_none (by simp[fQ];exact h)]at aF;cases aF
   have bl:q*sz+j<n*sz:=by
    have:(q+1)*sz≤n*sz:=Nat.mul_le_mul_right _ aO
    rw[Nat.succ_mul]at this;omega
   have:=fr (q*sz+j) v bl (by
    rw[Nat.mul_comm,Nat.mul_add_mod,Nat.mod_eq_of_lt o7,←Array.getElem?_toList];exact aF)
   rw[Nat.add_assoc];exact this
  ·cases ay
 ·cases ay
theorem RO (h:bd N aR aL R σ a w rd β) {i:Nat} {c:BC} {arr:Array Value} {e:TypeId} {sz:Nat} {f:ag→ag} (ar:EW σ σ' i ⟨false,false,c⟩ rd β f)
 (ay:e7 (w.alloc (.cells arr e)) rd (fN β i (some (ja w arr.size sz))) (ja w arr.size sz) c) (hm:c.isMap=false):
 bd N aR aL R σ' a (w.alloc (.cells arr e)) rd (fN β i (some (ja w arr.size sz))):=
 h.new (i:=i) (b:=⟨false,false,c⟩) rfl (r:=ja w arr.size sz) rfl rfl (ar.rep _) ar.af ar.aA ay (.of (YW _ _ _ _) hm)
theorem ZU (h:bd N aR aL R σ a w rd β) {i:Nat} {c:BC} {f:ag→ag} (ar:EW σ σ' i ⟨false,false,c⟩ rd β f) (aJ:c.isNil=true):bd N aR aL R σ' a w rd (fN β i none):=
 h.Sl (i:=i) (b:=⟨false,false,c⟩) rfl aJ (ar.rep _) ar.af ar.aA
end
end RV
namespace RV
open Go Go.RowKit
def BC.fa:BC→Nat
 | .cells _=>0
 | .recs sz _=>sz
 |_=>1
def BC.elems:BC→List D
 | .cells _=>[]
 | .ints k xs=>xs.map (.int k)
 | .flts xs=>xs.map .flt
 | .recs _ xs=>xs.flatten
 | .map _ _=>[]
def BC.wf:BC→Prop
 | .recs sz xs=>∀r∈xs,r.length=sz
 |_=>True
def BC.arr:BC→Bool
 | .cells _| .map _ _=>false
 |_=>true
theorem AU {c:BC} (h:c.arr=true):c.isMap=false:=by cases c<;>first|rfl|cases h
def D.uI:D→Option BC
 | .ints k xs=>some (.ints k xs)
 | .flts xs=>some (.flts xs)
 | .recs sz xs=>some (.recs sz xs)
 |_=>none
theorem L5 {α:Type} {sz:Nat} :∀{xs:List (List α)},(∀r∈xs,r.length=sz)→xs.flatten.length=xs.length*sz
 |[],_=>by simp
 |x::xs,h=>by
  rw[List.flatten_cons,List.length_append,L5 fun r ar=>h r (by simp[ar]),h x (by simp),List.length_cons,Nat.succ_mul,Nat.add_comm]
theorem Qt {α:Type} {sz:Nat} :∀{xs:List (List α)} (n:Nat),(∀r∈xs,r.length=sz)→(xs.take n).flatten=xs.flatten.take (n*sz)
 |[],n,_=>by simp
 |x::xs,0,_=>by simp
 |x::xs,n+1,h=>by
  rw[List.take_succ_cons,List.flatten_cons,List.flatten_cons,Qt n fun r ar=>h r (by simp[ar]),List.take_append]
  have:=h x (by simp)
  rw[List.take_of_length_le (l:=x) (by rw[this,Nat.succ_mul];omega),this,show (n+1)*sz - sz=n*sz by rw[Nat.succ_mul];omega]
theorem Xa {α:Type} {sz:Nat} :∀{xs:List (List α)} (n:Nat),(∀r∈xs,r.length=sz)→(xs.drop n).flatten=xs.flatten.drop (n*sz)
 |[],n,_=>by simp
 |x::xs,0,_=>by simp
 |x::xs,n+1,h=>by
  rw[List.drop_succ_cons,List.flatten_cons,Xa n fun r ar=>h r (by simp[ar]),List.drop_append]
  have:=h x (by simp)
  rw[List.drop_of_length_le (l:=x) (by rw[this,Nat.succ_mul];omega),this,show (n+1)*sz - sz=n*sz by rw[Nat.succ_mul];omega,List.nil_append]
theorem L9 {c:BC} (h:c.wf) (a6:c.arr=true):c.elems.length=c.count*c.fa:=by
 cases c with
 |cells cs=>cases a6
 |ints k xs=>simp[BC.elems,BC.count,BC.fa]
 |flts xs=>simp[BC.elems,BC.count,BC.fa]
 |recs sz xs=>exact L5 h
 |map n es=>cases a6
section
variable {N:Nat} {aR:e3} {aL:Mem} {R:bU} {σ σ':St} {a:Act} {w w':World} {rd:Mem} {β β':bU} {P:Program} {Γ:Env}
theorem c5.append {b:Nat} :∀{xs aC:List ag} {o:Nat},c5 w rd β b o (xs++aC)↔c5 w rd β b o xs∧c5 w rd β b (o+xs.length) aC
 |[],aC,o=>by simp[c5]
 |x::xs,aC,o=>by
  simp only[List.cons_append,c5,c5.append (xs:=xs),List.length_cons]
  rw[show o+1+xs.length=o+(xs.length+1)by omega,and_assoc]
theorem dd.iff {b:Nat} :∀{ds:List D} {o:Nat},dd w rd b o ds↔c5 w rd β b o (ds.map .d)
 |[],_=>by simp[dd,c5]
 |d::ds,o=>by simp only[dd,c5,List.map_cons,dd.iff (ds:=ds),aT]
theorem dd.append {b:Nat} :∀{xs aC:List D} {o:Nat},dd w rd b o (xs++aC)↔dd w rd b o xs∧dd w rd b (o+xs.length) aC
 |[],aC,o=>by simp[dd]
 |x::xs,aC,o=>by
  simp only[List.cons_append,dd,dd.append (xs:=xs),List.length_cons]
  rw[show o+1+xs.length=o+(xs.length+1)by omega,and_assoc]
theorem dd.ints {b:Nat} {k:IntKind} :∀{xs:List Int} {o:Nat},gX w.cell? k b o xs↔dd w rd b o (xs.map (.int k))
 |[],_=>by simp[dd,gX]
 |x::xs,o=>by
  simp only[gX,List.map_cons,dd,bj,dd.ints (xs:=xs)]
  constructor
  ·rintro⟨h1,h2⟩;exact⟨⟨_,h1,rfl⟩,h2⟩
  ·rintro⟨⟨u,h1,rfl⟩,h2⟩;exact⟨h1,h2⟩
theorem dd.flts {b:Nat} :∀{xs:List Nat} {o:Nat},gY w.cell? b o xs↔dd w rd b o (xs.map .flt)
 |[],_=>by simp[dd,gY]
 |x::xs,o=>by
  simp only[gY,List.map_cons,dd,bj,dd.flts (xs:=xs)]
  constructor
  ·rintro⟨⟨y,h1,e⟩,h2⟩;exact⟨⟨_,h1,y,rfl,e⟩,h2⟩
  ·rintro⟨⟨u,h1,y,rfl,e⟩,h2⟩;exact⟨⟨y,h1,e⟩,h2⟩
theorem dd.rows {b sz:Nat} :∀{xs:List (List D)} {o:Nat},hX w rd b sz o xs↔(∀r∈xs,r.length=sz)∧dd w rd b o xs.flatten
 |[],_=>by simp[dd,hX]
 |x::xs,o=>by
  simp only[hX,List.flatten_cons,dd.append,dd.rows (xs:=xs),List.mem_cons,forall_eq_or_imp]
  constructor
  ·rintro⟨rfl,h2,aq,aK⟩;exact⟨⟨rfl,aq⟩,h2,aK⟩
  ·rintro⟨⟨rfl,aq⟩,h2,aK⟩;exact⟨rfl,h2,aq,aK⟩
theorem e7.elems {r:cY} {c:BC} (a6:c.arr=true):e7 w rd β r c↔r.sz=c.fa∧c.count*c.fa≤r.len∧c.wf∧dd w rd r.bL r.off c.elems:=by
 cases c with
 |cells cs=>cases a6
 |ints k xs=>simp only[e7,BC.fa,BC.count,BC.wf,BC.elems,true_and,Nat.mul_one];rw[dd.ints]
 |flts xs=>simp only[e7,BC.fa,BC.count,BC.wf,BC.elems,true_and,Nat.mul_one];rw[dd.flts]
 |recs sz xs=>simp only[e7,BC.fa,BC.count,BC.wf,BC.elems];rw[dd.rows]
 |map n es=>cases a6
theorem dd.Jy {b:Nat} :∀{ds:List D} {o:Nat},dd w rd b o ds→∃us:List Value,bP rd ds us∧us.length=ds.length∧∀j x,us[j]? =some x→w.cell? (cellAt b (o+j))=some x
 |[],_,_=>⟨[],by simp only[bP],rfl,by simp⟩
 |d::ds,o,⟨⟨u,h1,h2⟩,aq⟩=>by
  obtain⟨us,bh,bB,c2⟩:=dd.Jy aq
  refine⟨u::us,by simp only[bP];exact⟨u,us,rfl,h2,bh⟩,by simp[bB],fun j x aF=> ?_⟩
  cases j with
  |zero=>simp only[List.getElem?_cons_zero,Option.some.injEq]at aF;subst aF;exact h1
  |succ j=>rw[show o+(j+1)=o+1+j by omega];exact c2 j x (by simpa using aF)
theorem c5.write {b o p:Nat} {xs vs:List ag} (h:c5 w rd β b o xs) (aQ:p+vs.length≤xs.length) (aB:c5 w' rd β b (o+p) vs)
 (fZ:∀k,¬(o+p≤k∧k<o+p+vs.length)→w'.cell? (cellAt b k)=w.cell? (cellAt b k)):
 c5 w' rd β b o (xs.take p++vs++xs.drop (p+vs.length)):=by
 have aH:(xs.take p).length=p:=by rw[List.length_take];omega
 rw[c5.append,c5.append,aH,List.length_append,aH]
 refine⟨⟨?_,aB⟩,?_⟩
 ·exact(h.take p).mono (fun i h1 h2=>fZ i (by rw[aH]at h2;omega)) (fun _ _ _ H=>H)
 ·rw[show o+(p+vs.length)=o+(p+vs.length)from rfl]
  exact(h.drop (p+vs.length)).mono (fun i h1 h2=>fZ i (by omega)) (fun _ _ _ H=>H)
theorem dd.write {b o p:Nat} {xs vs:List D} (h:dd w rd b o xs) (aQ:p+vs.length≤xs.length) (aB:dd w' rd b (o+p) vs)
 (fZ:∀k,¬(o+p≤k∧k<o+p+vs.length)→w'.cell? (cellAt b k)=w.cell? (cellAt b k)):
 dd w' rd b o (xs.take p++vs++xs.drop (p+vs.length)):=by
 have:=c5.write (w':=w') (p:=p) ((dd.iff (β:=fun _=>none)).1 h) (vs:=vs.map .d) (by simpa using aQ) (dd.iff.1 aB) (by simpa using fZ)
 rw[dd.iff (β:=fun _=>none)]
 simpa [List.map_take,List.map_drop]using this
theorem ajQ {b k:Nat} {arr:Array Value} {t:TypeId} {cx:Nat×Nat} (hw:w.heap[b]? =some (.cells arr t cx)) (v:Value):
 w.setCell ⟨b,k,none⟩ v= { w with heap:=w.heap.setIfInBounds b (.cells (arr.setIfInBounds k v) t cx) } :=by
 unfold World.setCell
 congr 1
 apply Array.ext_getElem?
 intro j
 rw[Array.getElem?_modify]
 by_cases e:b=j
 ·subst e
  have bl:=(Array.getElem?_eq_some_iff.1 hw).1
  rw[Array.getElem?_setIfInBounds_self_of_lt bl,if_pos rfl,hw]
  simp
 ·rw[Array.getElem?_setIfInBounds_ne e,if_neg e]
theorem W2 {b:Nat} {t:TypeId} {cx:Nat×Nat} :∀(vs:List Value) (o:Nat) {w:World} {arr:Array Value},w.heap[b]? =some (.cells arr t cx)→
 ∃kK,w.setCells b o vs= { w with heap:=w.heap.setIfInBounds b (.cells kK t cx) }∧kK.size=arr.size∧∀k,¬(o≤k∧k<o+vs.length)→kK[k]? =arr[k]?
 |[],o,w,arr,hw=>⟨arr,by
    have bl:=(Array.getElem?_eq_some_iff.1 hw).1
    rw[World.setCells]
    have:w.heap.setIfInBounds b (.cells arr t cx)=w.heap:=by
     apply Array.ext_getElem?
     intro j
     by_cases e:b=j
     ·subst e;rw[Array.getElem?_setIfInBounds_self_of_lt bl,hw]
     ·rw[Array.getElem?_setIfInBounds_ne e]
    rw[this],rfl,fun _ _=>rfl⟩
 |v::vs,o,w,arr,hw=>by
  have bl:=(Array.getElem?_eq_some_iff.1 hw).1
  have aE:=ajQ (k:=o) hw v
  obtain⟨kK,h1,h2,aq⟩:=W2 vs (o+1) (w:=w.setCell ⟨b,o,none⟩ v) (arr:=arr.setIfInBounds o v) (by rw[aE];exact Array.getElem?_setIfInBounds_self_of_lt bl)
  refine⟨kK,?_,by simpa using h2,fun k ad=> ?_⟩
  ·rw[World.setCells,h1,aE]
   simp
  ·rw[aq k (by simp at ad;omega),Array.getElem?_setIfInBounds_ne (by simp at ad;omega)]
theorem bd.write (h:bd N aR aL R σ a w rd β) {i:Nat} {r:cY} (hi:β i=some r) {e:Bool} {c:BC} (aj:σ.aA i=some ⟨false,e,c⟩) {vs:List Value} {p:Nat} (aQ:p+vs.length≤r.len) (h1:∀v∈vs,v.oneCell'=true) (hm:c.isMap=false):
 ∃w',(storeCells (cellAt r.bL (r.off+p)) vs).run P w= .ok () w'∧(∀c',e7 w' rd β r c'→c'.isMap=false→bd N aR aL R (σ.ea i ⟨false,e,c'⟩) a w' rd β)∧
  (∀j v,vs[j]? =some v→w'.cell? (cellAt r.bL (r.off+p+j))=some v)∧(∀k,¬(r.off+p≤k∧k<r.off+p+vs.length)→w'.cell? (cellAt r.bL k)=w.cell? (cellAt r.bL k)):=by
 obtain⟨b,z5,ay,sJ,_⟩:=h.box i r hi
 have cH:=aj
 rw[z5]at cH
 simp only[Option.some.injEq]at cH
 obtain⟨arr,t,cx,hw,fQ,hfz,_⟩:=sJ.cells (by rw[cH];exact hm)
 have fr:∀j,j<vs.length→(w.cell? (cellAt r.bL (r.off+p+j))).isSome=true:=fun j aF=>by
  simp only[World.cell?,cellAt,hw]
  simp;omega
 have GJ:∀j,j<vs.length→w.frozen? (cellAt r.bL (r.off+p+j))=false:=fun j aF=>by
  have:=hfz (r.off+p+j) (by omega) (by omega)
  have e:w.heap[(cellAt r.bL (r.off+p+j)).block]? =some (.cells arr t cx):=hw
  simp only[World.frozen?,e]
  show (decide (cx.1≤r.off+p+j) && decide (r.off+p+j<cx.2))=false
  rw[Bool.and_eq_false_iff,decide_eq_false_iff_not,decide_eq_false_iff_not]
  omega
 have ss:=run_storeCells_cells (P:=P) r.bL (r.off+p) vs 0 w (by simpa [cellAt]using fr) (by simpa [cellAt]using GJ) h1
 obtain⟨kK,f1,f2,f3⟩:=W2 vs (r.off+p) hw
 refine⟨w.setCells r.bL (r.off+p) vs,by simpa [cellAt]using ss,fun c' cZ mD=> ?_,fun j v aF=> ?_,fun k ad=> ?_⟩
 ·rw[f1]at cZ⊢
  exact h.store hi aj hw f2 (fun k ad=>f3 k (by omega)) cZ mD
 ·have bl:j<vs.length:=(List.getElem?_eq_some_iff.1 aF).1
  have:=World.cell?_setCells_in r.bL vs (r.off+p) w (by simpa [cellAt]using fr) j bl
  rw[cellAt,this,←aF,List.getElem?_eq_getElem bl]
 ·exact World.cell?_setCells_out r.bL vs (r.off+p) w (cellAt r.bL k) (fun _ _=>by simp only[cellAt];omega)
end
end RV
namespace RV
open Go Go.RowKit
section
variable {N:Nat} {aR:e3} {aL:Mem} {R:bU} {σ σ':St} {a:Act} {w w':World} {rd:Mem} {β β':bU} {P:Program} {Γ:Env}
theorem WV {size m cap:Nat} {A:Option Addr} {vs:List Value} (aH:vs.length=m*size) (aB:∀j x,vs[j]? =some x→∃aP,A=some aP∧w.cell? (aP.add j)=some x):
 (Builtin.firstCells size m (.slice A m cap)).run P w= .ok vs.toArray w:=by
 cases A with
 |none=>
  have:vs=[]:=by
   cases vs with
   |nil=>rfl
   |cons v vs=>obtain⟨aP,h,_⟩:=aB 0 v rfl;cases h
  subst this
  exact run_firstCells_none w size m m cap
 |some aP=>
  exact run_firstCells_some w size m aP m cap vs aH fun j x aF=>by
   obtain⟨auw,h1,h2⟩:=aB j x aF
   simp only[Option.some.injEq]at h1
   subst h1;exact h2
theorem MC (h:bd N aR aL R σ a w rd β) {v:ag} {u:Value} {d:D} {c:BC} (aD:toD σ v=some d) (ay:d.uI=some c) (hu:aT rd β v u):
 ∃A cap vs,u= .slice A c.count cap∧vs.length=c.count*c.fa∧c.wf∧bP rd c.elems vs∧(∀j x,vs[j]? =some x→∃aP,A=some aP∧w.cell? (aP.add j)=some x):=by
 have fin:∀{A:Option Addr} {cap:Nat} {b o:Nat},u= .slice A c.count cap→c.wf→c.arr=true→A=some (cellAt b o)→dd w rd b o c.elems→
  ∃A cap vs,u= .slice A c.count cap∧vs.length=c.count*c.fa∧c.wf∧bP rd c.elems vs∧(∀j x,vs[j]? =some x→∃aP,A=some aP∧w.cell? (aP.add j)=some x):=by
  intro A cap b o he hw a6 hA apU
  obtain⟨us,bh,bB,c2⟩:=apU.Jy
  exact⟨A,cap,us,he,by rw[bB,L9 hw a6],hw,bh,fun j x aF=>⟨_,hA,by rw[x5];exact c2 j x aF⟩⟩
 have nil:∀{A:Option Addr} {cap:Nat},u= .slice A c.count cap→c.wf→c.elems=[]→c.count*c.fa=0→
  ∃A cap vs,u= .slice A c.count cap∧vs.length=c.count*c.fa∧c.wf∧bP rd c.elems vs∧(∀j x,vs[j]? =some x→∃aP,A=some aP∧w.cell? (aP.add j)=some x):=by
  intro A cap he hw h0 h1
  exact⟨A,cap,[],he,by rw[h1];rfl,hw,by rw[h0];simp only[bP],by simp⟩
 cases v with
 |d x=>
  simp only[toD,Option.some.injEq]at aD
  subst aD
  simp only[aT]at hu
  cases x<;>simp only[D.uI,Option.some.injEq,reduceCtorEq]at ay
  case ints k xs=>
   subst ay
   simp only[bj]at hu
   obtain⟨A,cap,he,_,H⟩:=hu
   rcases H with rfl|⟨b,o,hA,H⟩
   ·exact nil he trivial rfl (by simp[BC.count])
   ·exact fin he trivial rfl hA (dd.ints.1 (H.mono h.dg))
  case flts xs=>
   subst ay
   simp only[bj]at hu
   obtain⟨A,cap,he,_,H⟩:=hu
   rcases H with rfl|⟨b,o,hA,H⟩
   ·exact nil he trivial rfl (by simp[BC.count])
   ·exact fin he trivial rfl hA (dd.flts.1 (H.mono h.dg))
  case recs sz xs=>
   subst ay
   simp only[bj]at hu
   obtain⟨A,cap,he,_,H⟩:=hu
   rcases H with rfl|⟨b,o,hA,H⟩
   ·exact nil he (fun _ ar=>by cases ar) rfl (by simp[BC.count])
   ·have key:∀{xs:List (List D)} {o:Nat},gG rd b sz o xs→hX w rd b sz o xs:=by
     intro xs
     induction xs with
     |nil=>intro o _;trivial
     |cons r rs cJ=>
      intro o H
      simp only[gG]at H
      exact⟨H.1,dd.iff.2 (c5.Ri (β:=fun _=>none) h.dg H.2.1),cJ H.2.2⟩
    obtain⟨h1,h2⟩:=dd.rows.1 (key H)
    exact fin he h1 rfl hA h2
 |own i lo n=>
  simp only[toD]at aD
  split at aD
  ·rename_i DS aw
   simp only[aT]at hu
   obtain⟨A,cap,he,aJ,H⟩:=hu
   cases gO:DS.c with
   |cells cs=>simp[gO,BC.part]at aD
   |map n es=>simp[gO,BC.part]at aD
   |ints k xs=>
    simp only[gO,BC.part]at aD
    split at aD
    ·simp only[Option.some.injEq]at aD;subst aD
     simp only[D.uI,Option.some.injEq]at ay;subst ay
     have BS:(BC.ints k ((xs.drop lo).take n)).count=n:=by simp[BC.count];omega
     rw[←BS]at he
     rcases H with ⟨rfl,rfl⟩|⟨r,ar,hA,_⟩
     ·exact nil he trivial (by simp[BC.elems]) (by rw[BS,Nat.zero_mul])
     ·obtain⟨bM,fl,c0,_⟩:=h.box i r ar
      rw[aw]at fl;simp only[Option.some.injEq]at fl;subst fl
      rw[gO]at c0
      have:=c0.2.2.sub (lo:=lo) n
      rw[c0.1,Nat.mul_one]at hA
      exact fin he trivial rfl hA (dd.ints.1 this)
    ·cases aD
   |flts xs=>
    simp only[gO,BC.part]at aD
    split at aD
    ·simp only[Option.some.injEq]at aD;subst aD
     simp only[D.uI,Option.some.injEq]at ay;subst ay
     have BS:(BC.flts ((xs.drop lo).take n)).count=n:=by simp[BC.count];omega
     rw[←BS]at he
     rcases H with ⟨rfl,rfl⟩|⟨r,ar,hA,_⟩
     ·exact nil he trivial (by simp[BC.elems]) (by rw[BS,Nat.zero_mul])
     ·obtain⟨bM,fl,c0,_⟩:=h.box i r ar
      rw[aw]at fl;simp only[Option.some.injEq]at fl;subst fl
      rw[gO]at c0
      have:=c0.2.2.sub (lo:=lo) n
      rw[c0.1,Nat.mul_one]at hA
      exact fin he trivial rfl hA (dd.flts.1 this)
    ·cases aD
   |recs sz xs=>
    simp only[gO,BC.part]at aD
    split at aD
    ·simp only[Option.some.injEq]at aD;subst aD
     simp only[D.uI,Option.some.injEq]at ay;subst ay
     have BS:(BC.recs sz ((xs.drop lo).take n)).count=n:=by simp[BC.count];omega
     rw[←BS]at he
     rcases H with ⟨rfl,rfl⟩|⟨r,ar,hA,_⟩
     ·exact nil he (fun _ ar=>by simp at ar) (by simp[BC.elems]) (by rw[BS,Nat.zero_mul])
     ·obtain⟨bM,fl,c0,_⟩:=h.box i r ar
      rw[aw]at fl;simp only[Option.some.injEq]at fl;subst fl
      rw[gO]at c0
      have:=c0.2.2.sub (lo:=lo) n
      rw[c0.1]at hA
      obtain⟨h1,h2⟩:=dd.rows.1 this
      exact fin he h1 rfl hA h2
    ·cases aD
  ·cases aD
 |box i off=>
  exfalso
  cases off with
  |zero=>
   simp only[toD]at aD
   split at aD
   ·split at aD
    ·simp only[Option.some.injEq]at aD;subst aD;cases ay
    ·cases aD
   ·cases aD
  |succ n=>simp[toD]at aD
 |agg cs=>
  exfalso
  simp only[toD]at aD
  split at aD
  ·simp only[Option.some.injEq]at aD;subst aD;cases ay
  ·cases aD
 |dk f x y=>
  exfalso
  simp only[toD]at aD
  split at aD
  ·simp only[Option.some.injEq]at aD;subst aD;cases ay
  ·cases aD
 |eo i j o=>simp[toD]at aD
 |mp i=>simp[toD]at aD
 |dv l=>simp[toD]at aD
 |dB=>simp[toD]at aD
 |any=>simp[toD]at aD
theorem alL {c c':BC} {d:D} (h:E9 c d=some c'):∃gf,d.uI=some gf∧c.arr=true∧c'.arr=true∧gf.fa=c.fa∧c'.fa=c.fa∧c'.elems=c.elems++gf.elems∧c'.count=c.count+gf.count∧(c.wf→gf.wf→c'.wf)∧
 (gf.count=0→c'=c)∧(gf.elems.map ag.d).all ag.dV=true:=by
 unfold E9 at h
 split at h
 ·rename_i k xs cX aC
  split at h
  ·rename_i e;subst e
   simp only[Option.some.injEq]at h;subst h
   exact⟨.ints cX aC,rfl,rfl,rfl,rfl,rfl,by simp[BC.elems],by simp[BC.count],fun _ _=>trivial,fun e=>by
    have:aC=[]:=List.eq_nil_of_length_eq_zero e
    simp[this],by simp[BC.elems,ag.dV]⟩
  ·cases h
 ·rename_i xs aC
  simp only[Option.some.injEq]at h;subst h
  exact⟨.flts aC,rfl,rfl,rfl,rfl,rfl,by simp[BC.elems],by simp[BC.count],fun _ _=>trivial,fun e=>by
   have:aC=[]:=List.eq_nil_of_length_eq_zero e
   simp[this],by simp[BC.elems,ag.dV]⟩
 ·rename_i sz xs Dl aC
  split at h
  ·rename_i e;obtain⟨rfl,UD⟩:=e
   simp only[Option.some.injEq]at h;subst h
   exact⟨.recs Dl aC,rfl,rfl,rfl,rfl,rfl,by simp[BC.elems],by simp[BC.count],fun h1 h2 r ar=>by
    rcases List.mem_append.1 ar with ar|ar
    ·exact h1 r ar
    ·exact h2 r ar,fun e=>by
    have:aC=[]:=List.eq_nil_of_length_eq_zero e
    simp[this],by simpa [BC.elems,Em]using UD⟩
  ·cases h
 ·cases h
theorem amJ {c:BC} (h:c.arr=true) (i:Nat):c.kill i=c:=by cases c<;>first|rfl|cases h
theorem Xr (σ:St) {i:Nat} {f e:Bool} {c:BC} (h:c.arr=true):(σ.forget i).ea i ⟨f,e,c⟩=(σ.ea i ⟨f,e,c⟩).forget i:=by
 unfold St.forget St.ea lb
 congr 1
 funext j
 by_cases aF:j=i
 ·simp[aF,cm.kill,amJ h]
 ·simp[aF]
theorem bd.forget (h:bd N aR aL R σ a w rd β) (i:Nat):bd N aR aL R (σ.forget i) a w rd β where
 size:=h.size
 defers:=h.defers
 cO:=h.cO
 dH:=h.dH
 dg:=h.dg
 dR:=h.dR
 aL:=h.aL
 eR:=fun j r b aF aj bp aP a6=>by
  obtain⟨cK,h0,_⟩:=h.box j r aF
  simp only[St.forget,h0,Option.map_some,Option.some.injEq]at aj
  subst aj
  exact h.eR j r cK aF h0 bp aP a6
 eX:=fun t=>aT.kill (fun _ _=>rfl) (h.eX t)
 box:=fun j r aF=>by
  obtain⟨cK,h0,dO,eF,h1,h2⟩:=h.box j r aF
  refine⟨cK.kill i,by simp[St.forget,h0],?_,eF.congr (by rw[cm.CI];exact Ec _ _),h1,h2⟩
  have:=dO.gK (β':=β) (f:=ag.kill i) (fun x v aj=>aT.kill (fun _ _=>rfl) aj) (w':=w) (fun _ _ _=>rfl) (fun _=>rfl)
  rw[cm.CI]
  exact this
 eM:=fun j b aj aF=>by
  cases h0:σ.aA j with
  |none=>simp[St.forget,h0]at aj
  |some cK=>
   simp only[St.forget,h0,Option.map_some,Option.some.injEq]at aj
   subst aj
   obtain⟨bh,bB⟩:=h.eM j cK h0 aF
   exact⟨bh,by rw[←bB,cm.CI];exact Ed _ cK.c⟩
 eE:=h.eE
end
end RV
namespace RV
open Go Go.RowKit
section
variable {N:Nat} {aR:e3} {aL:Mem} {R:bU} {σ σ':St} {a:Act} {w w':World} {rd rd':Mem} {β β':bU} {P:Program} {Γ:Env}
def eW (P:Program) (N:Nat) (aR:e3) (aL:Mem) (R:bU) (o:Oper) (a:Act) (w:World) (K:St→Prop):Prop:=
 ∀(next:Act→World→Prop) (Q:Exit→Act→World→Prop),(∀σ' b7 w' rd' β',K σ'→bd N aR aL R σ' b7 w' rd' β'→next b7 w')→o.wp P a w next Q
theorem eW.value {o:Oper} {K:St→Prop} {u:Value} {v:ag} (ar:(execOp a.eval o).run P w= .ok (.value u) w') (h:bd N aR aL R σ' a w' rd' β') (aB:aT rd' β' v u)
 (aD:hK N o.dst=true) (b9:K (σ'.put o.dst v)):eW P N aR aL R o a w K:=fun next Q aJ=>by
 unfold Oper.wp
 rw[ar,Oper.upon_value]
 exact aJ _ _ _ _ _ b9 (h.put aD aB)
theorem eW.skip {o:Oper} {K:St→Prop} (ar:(execOp a.eval o).run P w= .ok .skip w') (h:bd N aR aL R σ' a w' rd' β')
 (aD:hK N o.dst=true) (b9:K (σ'.put o.dst .dB)):eW P N aR aL R o a w K:=fun next Q aJ=>by
 unfold Oper.wp
 rw[ar,Oper.upon_skip]
 exact aJ _ _ _ _ _ b9 (h.put aD (by simp only[aT]))
theorem gL.goes {o:Oper} {K:St→Prop} (aD:hK N o.dst=true) (h:gL P N aR aL R σ a w β o fun v=>K (σ.put o.dst v)):eW P N aR aL R o a w K:=by
 obtain⟨av,u,w',rd',h1,h2,aq,aK⟩:=h
 exact eW.value aK h2 aq aD h1
theorem aka {ty:TypeId} {op:Op} {l:bx} (ae:cS P ty op=some l) (hm:l.makes=true):
 (∃e z,op= .alloc e∧A4 P e=some z∧l= .alloc z)∨(∃e x v,op= .box e x∧k4 P e x=some v∧l= .box v)∨
 (∃t n c e ek z v,op= .makeSlice t n c∧P.underlying t=some (.slice e)∧sd P e=some ek∧A4 P e=some z∧dA P n=some v∧M8 n c=true∧CG P e=true∧l= .rJ ek z v)∨
 (∃ek,l= .nil ek∧(op= .assign (.const (.slice none 0 0))∨∃t e parts,op= .buildSlice t 0 parts∧P.underlying t=some (.slice e)∧sd P e=some ek∧parts.toList.isEmpty=true))∨
 (∃t r e,op= .makeMap t r∧Br P t=some e∧(r=none∨∃k n,r=some (.const (.int k n)))∧l= .q0 e.1):=by
 cases op with
 |alloc e=>
  simp only[cS]at ae
  split at ae
  ·simp only[Option.some.injEq]at ae;subst ae;cases hm
  ·obtain⟨z,h1,rfl⟩:=map_some ae;exact .inl ⟨e,z,rfl,h1,rfl⟩
 |box e x=>obtain⟨z,h1,rfl⟩:=map_some ae;exact .inr (.inl ⟨e,x,z,rfl,h1,rfl⟩)
 |makeSlice t n c=>
  simp only[cS,q2]at ae
  split at ae
  ·rename_i e v hu aJ
   split at ae
   ·rename_i ek z mC bp
    split at ae
    ·rename_i aE
     simp only[Option.some.injEq]at ae;subst ae
     simp only[Bool.and_eq_true]at aE
     exact .inr (.inr (.inl ⟨t,n,c,e,ek,z,v,rfl,hu,mC,bp,aJ,aE.1,aE.2,rfl⟩))
    ·cases ae
   ·cases ae
  ·cases ae
 |assign x=>
  simp only[cS,pF]at ae
  split at ae
  ·obtain⟨ek,h1,rfl⟩:=map_some ae
   exact .inr (.inr (.inr (.inl ⟨ek,rfl,.inl rfl⟩)))
  ·obtain⟨v,h1,rfl⟩:=map_some ae
   cases hm
 |buildSlice t len parts=>
  simp only[cS,p5]at ae
  split at ae
  ·rename_i e hu
   split at ae
   ·rename_i ek mC
    split at ae
    ·split at ae
     ·rename_i aH
      split at ae
      ·rename_i aQ
       simp only[Option.some.injEq]at ae;subst ae;subst aH
       exact .inr (.inr (.inr (.inl ⟨ek,rfl,.inr ⟨t,e,parts,rfl,hu,mC,aQ⟩⟩)))
      ·cases ae
     ·split at ae
      ·obtain⟨v,h1,rfl⟩:=map_some ae
       cases hm
      ·cases ae
    ·cases ae
   ·cases ae
  ·cases ae
 |call c=>
  exfalso
  simp only[cS,l0]at ae
  split at ae
  ·simp only[pD]at ae
   repeat' (split at ae)
   all_goals first
    |(cases ae;done)
    |(obtain⟨v,_,rfl⟩:=map_some ae;cases hm;done)
    |(simp only[Option.some.injEq]at ae;subst ae;cases hm;done)
  ·split at ae
   ·rename_i n aJ
    cases aB:iX P c.argTypes.toList c.args.toList with
    |none=>rw[aB]at ae;cases ae
    |some bm=>
     rw[aB]at ae
     obtain⟨x,rfl,⟨rfl,rfl⟩|⟨rfl,rfl⟩⟩:=MB (show Bq n bm=some l from ae)<;>cases hm
   ·obtain⟨v,_,rfl⟩:=map_some ae;cases hm
  ·split at ae
   ·simp only[Option.some.injEq]at ae;subst ae;cases hm
   ·cases ae
  ·split at ae
   ·simp only[Option.some.injEq]at ae;subst ae;cases hm
   ·cases ae
 |makeMap t r=>
  simp only[cS,pP]at ae
  split at ae
  ·rename_i e he
   simp only[Option.some.injEq]at ae;subst ae
   exact .inr (.inr (.inr (.inr ⟨t,none,e,rfl,he,.inl rfl,rfl⟩)))
  ·rename_i e k n he
   simp only[Option.some.injEq]at ae;subst ae
   exact .inr (.inr (.inr (.inr ⟨t,_,e,rfl,he,.inr ⟨k,n,rfl⟩,rfl⟩)))
  ·cases ae
 |makeFunc f x y=>
  exfalso
  cases f with
  |func f=>
   simp only[cS,pX]at ae
   split at ae
   ·simp only[Option.some.injEq]at ae;subst ae;cases hm
   ·cases ae
  |_=>cases ae
 |_=>
  exfalso
  first
   |(cases ae;done)
   |(obtain⟨v,_,rfl⟩:=map_some ae;cases hm;done)
   |(have:=Option.some.inj ae;subst this;cases hm;done)
   |(simp only[cS,pU,pV,qX,p4,pW,pJ,pK,pL,pM,pN,pO,pP,pY,k5,p6]at ae
     repeat' (split at ae)
     all_goals first
      |(cases ae;done)
      |(obtain⟨v,_,rfl⟩:=map_some ae;cases hm;done)
      |(simp only[Option.some.injEq]at ae;subst ae;cases hm;done))
theorem ajR {ek:dM} {z:List D} {n:Nat} {c:BC} (h:tu ek z n=some c):c.arr=true∧c.count=n∧(n=0→c.isNil=true):=by
 unfold tu at h
 split at h
 ·split at h
  ·simp only[Option.some.injEq]at h;subst h
   exact⟨rfl,by simp[BC.count],fun e=>by subst e;rfl⟩
  ·cases h
 ·simp only[Option.some.injEq]at h;subst h
  exact⟨rfl,by simp[BC.count],fun e=>by subst e;rfl⟩
 ·split at h
  ·simp only[Option.some.injEq]at h;subst h
   exact⟨rfl,by simp[BC.count],fun e=>by subst e;rfl⟩
  ·cases h
 ·cases h
theorem ajS {x y:Operand} (h:M8 x y=true):a.eval x=a.eval y:=by
 unfold M8 at h
 split at h
 ·simp only[beq_iff_eq]at h;subst h;rfl
 ·simp only[Bool.and_eq_true,beq_iff_eq]at h;rw[h.1,h.2]
 ·cases h
theorem Xb {e:TypeId} {i:TypeInfo} {ek:dM} (hi:P.info? e=some i) (mC:sd P e=some ek):i.size=ek.sz:=by
 have:=(H7 mC).1
 simpa [g9,hi]using this
theorem tk (β:bU) (i:Nat) (r:Option cY):fN β i r i=r:=if_pos rfl
theorem Ej (h:bd N aR aL R σ a w rd β) {o:Oper} {l:bx} (ae:cS P o.type o.op=some l) (hm:l.makes=true) (aD:hK N o.dst=true) {i:Nat} {g:cm→St} {f:ag→ag} {K:St→Prop}
 (ad:made σ l (fun v b=>K ((g b).put o.dst v)) i) (eC:∀b,EW σ (g b) i b rd β f)
 (aj:∀x,l= .box x→∀r vs,bY rd β (σ.aU x).cells vs→bY rd (fN β i r) (σ.aU x).cells vs):eW P N aR aL R o a w K:=by
 rcases aka ae hm with ⟨e,z,bw,bp,rfl⟩|⟨e,x,v,bw,aB,rfl⟩|⟨t,n,c,e,ek,z,v,bw,hu,mC,bp,aJ,CS,auy,rfl⟩|⟨ek,rfl,bw⟩|⟨t,rs,e,bw,he,fD,rfl⟩
 ·obtain⟨inf,zc,hi,vK,sK⟩:=D6 bp (rd:=rd)
  refine eW.value (u:= .pointer (some (cellAt w.heap.size 0))) ?_ (Nb h (eC _) (arr:=zc.cells) (e:=e) (AJ sK)) ?_ aD ad
  ·simp only[execOp,bw,Instr.alloc,Sem.run_bind,AX hi vK,Result.andThen_ok,newVar,newRow,run_newObj,Sem.run_pure]
   rfl
  ·simp only[aT]
   exact⟨ja w _ 1,tk _ _ _,rfl⟩
 ·simp only[made]at ad
  have ar:=Q1 ad.1 (x4 h aB)
  refine eW.value (u:= .pointer (some (cellAt w.heap.size 0))) ?_ (Nb h (eC _) (arr:=(a.eval x).cells) (e:=e) (aj v rfl _ _ ar)) ?_ aD ad.2
  ·simp only[execOp,bw,Instr.box,newVar,newRow,Sem.run_bind,run_newObj,Sem.run_pure,Result.andThen_ok]
   rfl
  ·simp only[aT]
   exact⟨ja w _ 1,tk _ _ _,rfl⟩
 ·simp only[made]at ad
  split at ad
  ·rename_i k m mD
   split at ad
   ·rename_i j5 dq
    obtain⟨h0,NR,ad⟩:=ad
    have BT:=ez h aJ
    rw[mD]at BT
    simp only[aT,bj]at BT
    obtain⟨inf,zc,hi,vK,sK⟩:=D6 bp (rd:=rd)
    have fQ:=Xb hi mC
    have aw:inf.bytes≤4096:=by simpa [CG,hi]using auy
    have sL:zc.cells.size=ek.sz∨m.toNat=0:=by
     unfold tu at dq
     split at dq
     ·simp only[bP,bj]at sK
      obtain⟨_,_,dT,_,rfl⟩:=sK
      left;rw[←Array.length_toList,dT];rfl
     ·simp only[bP,bj]at sK
      obtain⟨_,_,dT,_,rfl⟩:=sK
      left;rw[←Array.length_toList,dT];rfl
     ·split at dq
      ·rename_i aH
       left;rw[←Array.length_toList,AH sK,aH];rfl
      ·cases dq
     ·cases dq
    have sL:zc.cells.size=ek.sz:=by
     rcases sL with sL|sL
     ·exact sL
     ·unfold tu at dq
      split at dq
      ·simp only[bP,bj]at sK
       obtain⟨_,_,dT,_,rfl⟩:=sK
       rw[←Array.length_toList,dT];rfl
      ·simp only[bP,bj]at sK
       obtain⟨_,_,dT,_,rfl⟩:=sK
       rw[←Array.length_toList,dT];rfl
      ·split at dq
       ·rename_i aH
        rw[←Array.length_toList,AH sK,aH];rfl
       ·cases dq
      ·cases dq
    have ss:=run_make (P:=P) w t e inf zc hu hi vK k k m m h0 (Int.le_refl _) (by
     have:(inf.bytes:Int)*m≤4096*4294967296:=by
      refine Int.mul_le_mul (by omega) NR h0 (by omega)
     omega) (by simp only[b1]at NR;omega)
    have hlen:(madeCells zc.cells (m.toNat*inf.size)).size=m.toNat*ek.sz:=by rw[size_madeCells,fQ]
    refine eW.value (u:= .slice (some ⟨w.heap.size,0,none⟩) m.toNat m.toNat) (w':=w.alloc (.cells (madeCells zc.cells (m.toNat*inf.size)) e)) ?_ (RO h (eC _) (sz:=ek.sz) ?_ (AU (ajR dq).1)) ?_ aD ad
    ·have cZ:a.eval c= .int k m:=by rw[←ajS CS];exact BT
     simp only[execOp,bw,BT,cZ,Sem.run_bind,ss,Result.andThen_ok,Sem.run_pure]
    ·refine alK dq sK sL rfl (by simp only[ja];rw[hlen];exact Nat.le_refl _) fun j x aF aj=> ?_
     show (w.alloc _).cell? (cellAt w.heap.size (0+j))=some x
     rw[Nat.zero_add,Rn]
     unfold madeCells
     exact alJ (n:=m.toNat) (size:=inf.size) (by rw[sL,fQ]) (by rw[fQ];exact aF) (by rw[fQ];exact aj)
    ·simp only[aT]
     refine⟨_,_,rfl,Nat.le_refl _,.inr ⟨ja w _ ek.sz,tk _ _ _,by simp only[ja,Nat.zero_mul,Nat.add_zero];rfl,fun _=> ?_⟩⟩
     simp only[ja];rw[hlen];omega
   ·exact ad.elim
  ·exact ad.elim
 ·simp only[made]at ad
  rcases bw with bw|⟨t,e,parts,bw,hu,mC,aQ⟩
  ·refine eW.value (u:= .slice none 0 0) (w':=w) (by simp[execOp,bw,Act.eval]) (ZU h (eC _) (by cases ek<;>rfl)) ?_ aD ad
   simp only[aT]
   exact⟨none,0,rfl,Nat.le_refl _,.inl (by simp)⟩
  ·obtain⟨o6,Jz⟩:=H7 mC
   have vL:parts= #[]:=by
    apply Array.ext'
    simpa using aQ
   have he:∀f:Nat→Value,(Array.range 0).map f= #[]:=fun f=>Array.eq_empty_of_size_eq_zero (by simp)
   have dO:e7 (w.alloc (.cells #[] e)) rd (fN β i (some (ja w (#[]:Array Value).size ek.sz))) (ja w (#[]:Array Value).size ek.sz) (lV ek):=by
    cases ek with
    |ints k=>exact⟨rfl,by simp,trivial⟩
    |flts=>exact⟨rfl,by simp,trivial⟩
    |recs sz=>exact⟨rfl,by simp,trivial⟩
   refine eW.value (u:= .slice (some ⟨w.heap.size,0,none⟩) 0 0) (w':=w.alloc (.cells #[] e)) ?_ (RO h (eC _) (sz:=ek.sz) dO (by cases ek<;>rfl)) ?_ aD ad
   ·simp only[execOp,bw,vL,Instr.buildSlice,Sem.run_bind,eu hu,Result.andThen_ok,lW o6,Nat.zero_mul]
    rw[if_neg (by decide)]
    simp only[if_true,Sem.run_pure,Result.andThen_ok,he]
    simp[Instr.fill,newRow,run_newObj]
   ·simp only[aT]
    exact⟨_,0,rfl,Nat.le_refl _,.inl (by simp)⟩
 ·simp only[made]at ad
  obtain⟨n,e⟩:=e
  obtain⟨LI,hu,_⟩:=Q3 he
  have aa9:(w.alloc (.map #[] 0)).heap[w.heap.size]? =some (.map #[] 0):=Array.getElem?_push_size
  have ss:(execOp a.eval o).run P w= .ok (.value (.map (some w.heap.size))) (w.alloc (.map #[] 0)):=by
   rcases fD with rfl|⟨k,m,rfl⟩
   ·simp[execOp,bw,Instr.makeMap]
   ·have ad:a.eval (.const (.int k m))= .int k m:=rfl
    simp[execOp,bw,Instr.makeMap,ad,eu hu,asInt,asIntOf]
  have aw:=eC ⟨false,false,.map n []⟩
  refine eW.value ss (bd.new h (i:=i) (b:=⟨false,false,.map n []⟩) rfl (o:= .map #[] 0) (r:=⟨w.heap.size,0,1,1,true⟩) rfl rfl (aw.rep _) aw.af aw.aA ⟨#[],0,aa9,rfl⟩ ?_) ?_ aD ad
  ·unfold dZ
   rw[if_pos (show (BC.map n []).isMap=true from rfl)]
   exact⟨⟨#[],0,aa9⟩,rfl,rfl⟩
  ·simp only[aT]
   exact⟨⟨w.heap.size,0,1,1,true⟩,by simp,rfl⟩
end
end RV
namespace RV
open Go Go.RowKit
section
variable {N:Nat} {aR:e3} {aL:Mem} {R:bU} {σ σ':St} {a:Act} {w w':World} {rd rd':Mem} {β β':bU} {P:Program} {Γ:Env}
theorem amK {ty:TypeId} {op:Op} {n:Nat} {x y:bk} (ae:cS P ty op=some (.store n x y)):
 ∃t p q,op= .store t p q∧dA P p=some x∧k4 P t q=some y∧g9 P t=some n:=by
 cases op with
 |store t p q=>
  simp only[cS,qX]at ae
  split at ae
  ·rename_i h1 h2 aq
   simp only[Option.some.injEq,bx.store.injEq]at ae
   obtain⟨rfl,rfl,rfl⟩:=ae
   exact⟨t,p,q,rfl,h1,h2,aq⟩
  ·cases ae
 |call c=>
  exfalso
  simp only[cS,l0]at ae
  split at ae
  ·simp only[pD]at ae
   repeat' (split at ae)
   all_goals first
    |(cases ae;done)
    |(obtain⟨v,_,h⟩:=map_some ae;cases h;done)
  ·rcases x6 ae with ⟨bm,_,h⟩|⟨x,_,⟨_,h⟩|⟨_,h⟩⟩<;>cases h
  ·split at ae
   ·cases ae
   ·cases ae
  ·split at ae
   ·cases ae
   ·cases ae
 |makeFunc f x y=>
  exfalso
  cases f with
  |func f=>
   simp only[cS,pX]at ae
   split at ae
   ·cases ae
   ·cases ae
  |_=>cases ae
 |_=>
  exfalso
  first
   |(cases ae;done)
   |(obtain⟨v,_,h⟩:=map_some ae;cases h;done)
   |(simp only[cS,pF,pU,pV,p4,pW,pJ,pK,pL,pM,pN,pO,q2,p5,pP,pY,k5,p6]at ae
     repeat' (split at ae)
     all_goals first
      |(cases ae;done)
      |(obtain⟨v,_,h⟩:=map_some ae;cases h;done))
theorem XK:∀{vs:List ag} {ds:List D},u1 vs=some ds→vs=ds.map .d
 |[],ds,h=>by simp only[u1,Option.some.injEq]at h;subst h;rfl
 |v::vs,ds,h=>by
  simp only[u1]at h
  split at h
  ·rename_i d uq h1 h2
   simp only[Option.some.injEq]at h;subst h
   cases v with
   |d x=>simp only[ag.NP,Option.some.injEq]at h1;subst h1;rw[XK h2];rfl
   |_=>cases h1
  ·cases h
theorem akb (h:bd N aR aL R σ a w rd β) {i:Nat} {r:cY} (hi:β i=some r) {e:Bool} {c c':BC} (aj:σ.aA i=some ⟨false,e,c⟩) {off:Nat} {vs:List ag} {us:List Value}
 (aE:tv c off vs=some c') (ar:bY rd β vs us) (h1:∀u∈us,u.oneCell'=true):
 ∃w',(storeCells (cellAt r.bL (r.off+off)) us).run P w= .ok () w'∧bd N aR aL R (σ.ea i ⟨false,e,c'⟩) a w' rd β:=by
 cases c with
 |cells cs=>
  simp only[tv]at aE
  split at aE
  ·rename_i aH
   simp only[Option.some.injEq]at aE;subst aE
   have hlen:=AF ar
   obtain⟨b,aw,c0,_⟩:=h.box i r hi
   rw[aj]at aw;simp only[Option.some.injEq]at aw;subst aw
   obtain⟨w',bh,bB,c2,hF⟩:=h.write (P:=P) hi aj (vs:=us) (p:=off) (by have:=c0.1;omega) h1 rfl
   refine⟨w',bh,bB _ ⟨by have:=c0.1;simp;omega,?_⟩ rfl⟩
   refine c0.2.write aH (c5.ye ar fun j aF=> ?_) (by rw[hlen]at hF;exact hF)
   rw[List.getElem?_eq_getElem aF]
   exact c2 j _ (List.getElem?_eq_getElem aF)
  ·cases aE
 |_=>cases aE
theorem ZV {α iS:Type} {f:α→iS} {xs:List α} {j:Nat} {x:α} (aF:j<xs.length):(xs.set j x).map f=(xs.map f).take j++[f x]++(xs.map f).drop (j+1):=by
 rw[List.set_eq_take_append_cons_drop,if_pos aF]
 simp[List.map_take,List.map_drop]
theorem akc {α:Type} {sz j off:Nat} {xs:List (List α)} {ds:List α} (hw:∀r∈xs,r.length=sz) (aF:j<xs.length) (bz:off+ds.length≤sz):
 (xs.set j ((xs.getD j []).take off++ds++(xs.getD j []).drop (off+ds.length))).flatten=xs.flatten.take (j*sz+off)++ds++xs.flatten.drop (j*sz+off+ds.length):=by
 have hlen:(xs.getD j []).length=sz:=by
  rw[List.getD_eq_getElem?_getD,List.getElem?_eq_getElem aF]
  exact hw _ (List.getElem_mem aF)
 have A6:xs=xs.take j++(xs.getD j [])::xs.drop (j+1):=by
  rw[List.getD_eq_getElem?_getD,List.getElem?_eq_getElem aF]
  simp
 have z6:(xs.take j).flatten.length=j*sz:=by
  rw[L5 (sz:=sz) (fun r ar=>hw r (List.mem_of_mem_take ar)),List.length_take,Nat.min_eq_left (Nat.le_of_lt aF)]
 rw[List.set_eq_take_append_cons_drop,if_pos aF]
 have hf:xs.flatten=(xs.take j).flatten++((xs.getD j [])++(xs.drop (j+1)).flatten):=by
  conv=>lhs;rw[A6]
  simp
 rw[hf,List.flatten_append,List.flatten_cons]
 generalize xs.getD j []=row at hlen⊢
 generalize (xs.take j).flatten=A at z6⊢
 generalize (xs.drop (j+1)).flatten=B
 rw[List.take_append,List.take_of_length_le (l:=A) (by omega),List.drop_append,List.drop_of_length_le (l:=A) (by omega),z6,
  show j*sz+off - j*sz=off by omega,show j*sz+off+ds.length - j*sz=off+ds.length by omega,List.take_append,List.drop_append]
 rw[show off - row.length=0 by omega,show off+ds.length - row.length=0 by omega]
 simp
theorem akd {c c':BC} {j off:Nat} {vs:List ag} (h:u2 c j off vs=some c') (hw:c.wf):∃ds,vs=ds.map .d∧c.arr=true∧c'.arr=true∧c'.fa=c.fa∧c'.count=c.count∧c'.wf∧j*c.fa+off+ds.length≤c.elems.length∧
 c'.elems=c.elems.take (j*c.fa+off)++ds++c.elems.drop (j*c.fa+off+ds.length):=by
 unfold u2 at h
 split at h
 ·split at h
  ·rename_i k xs cX n ay
   obtain⟨rfl,rfl,aF⟩:=ay
   simp only[Option.some.injEq]at h;subst h
   exact⟨[.int cX n],rfl,rfl,rfl,rfl,by simp[BC.count],trivial,by simp[BC.fa,BC.elems];omega,by simpa [BC.elems,BC.fa]using ZV (f:=D.int cX) aF⟩
  ·cases h
 ·split at h
  ·rename_i xs n ay
   obtain⟨rfl,aF⟩:=ay
   simp only[Option.some.injEq]at h;subst h
   exact⟨[.flt n],rfl,rfl,rfl,rfl,by simp[BC.count],trivial,by simp[BC.fa,BC.elems];omega,by simpa [BC.elems,BC.fa]using ZV (f:=D.flt) aF⟩
  ·cases h
 ·split at h
  ·rename_i ds hq
   split at h
   ·rename_i sz xs _ ay
    obtain⟨aF,bz⟩:=ay
    simp only[Option.some.injEq]at h;subst h
    have hlen:(xs.getD j []).length=sz:=by
     rw[List.getD_eq_getElem?_getD,List.getElem?_eq_getElem aF]
     exact hw _ (List.getElem_mem aF)
    refine⟨ds,XK hq,rfl,rfl,rfl,by simp[BC.count],fun r ar=> ?_,?_,akc hw aF bz⟩
    ·rcases List.mem_or_eq_of_mem_set ar with ar|rfl
     ·exact hw r ar
     ·simp only[List.length_append,List.length_take,List.length_drop,hlen];omega
    ·simp only[BC.elems,BC.fa]
     rw[L5 hw]
     have:(j+1)*sz≤xs.length*sz:=Nat.mul_le_mul_right _ aF
     rw[Nat.succ_mul]at this
     omega
   ·cases h
  ·cases h
 ·cases h
theorem ake {t:TypeId} {n b o:Nat} {u:Value} (aE:g9 P t=some n) (hu:u.cells.size=n) (ar:(storeCells (cellAt b o) u.cells.toList).run P w= .ok () w'):
 (Instr.storeAt t (.pointer (some (cellAt b o))) u).run P w= .ok () w':=by
 simp only[Instr.storeAt,Sem.run_bind,Instr.sureAddr,storeVar,lW aE,Result.andThen_ok,Sem.run_pure,hu,ne_eq,not_true_eq_false,if_false]
 simpa using ar
theorem Ic (h:bd N aR aL R σ a w rd β) {o:Oper} {n:Nat} {x y:bk} (ae:cS P o.type o.op=some (.store n x y)) (aD:hK N o.dst=true) {i:Nat} {e:Bool} {c c':BC} {K:St→Prop}
 (aj:σ.aA i=some ⟨false,e,c⟩) (aH:(σ.aU y).cells.length=n) (aE:(σ.aU y).cells.all ag.dV=true)
 (aQ:(∃off,σ.aU x= .box i off∧tv c off (σ.aU y).cells=some c')∨(∃j off,σ.aU x= .eo i j off∧u2 c j off (σ.aU y).cells=some c'))
 (b9:K ((σ.ea i ⟨false,e,c'⟩).put o.dst .dB)):eW P N aR aL R o a w K:=by
 obtain⟨t,p,q,bw,auz,sM,fQ⟩:=amK ae
 have GL:=ez h auz
 have gm:=Q1 aE (x4 h sM)
 have OU:=MO aE gm
 have auA:(a.eval q).cells.size=n:=by rw[←Array.length_toList,AF gm,aH]
 have fin:∀{b o':Nat} {w':World},a.eval p= .pointer (some (cellAt b o'))→(storeCells (cellAt b o') (a.eval q).cells.toList).run P w= .ok () w'→bd N aR aL R (σ.ea i ⟨false,e,c'⟩) a w' rd β→eW P N aR aL R o a w K:=by
  intro b o' w' vL ar ay
  refine eW.skip (w':=w') ?_ ay aD b9
  simp only[execOp,bw,vL,Sem.run_bind,ake fQ auA ar,Result.andThen_ok,Sem.run_pure]
 rcases aQ with ⟨off,UE,e5⟩|⟨j,off,UE,e5⟩
 ·rw[UE]at GL
  simp only[aT]at GL
  obtain⟨r,hi,vL⟩:=GL
  obtain⟨w',h1,h2⟩:=akb (P:=P) h hi aj e5 gm OU
  exact fin vL h1 h2
 ·rw[UE]at GL
  simp only[aT]at GL
  obtain⟨r,hi,vL⟩:=GL
  obtain⟨b,aw,c0,sJ⟩:=h.box i r hi
  rw[aj]at aw;simp only[Option.some.injEq]at aw;subst aw
  have a6:c.arr=true:=by
   cases c with
   |cells cs=>simp[u2]at e5
   |map n es=>simp[u2]at e5
   |_=>rfl
  obtain⟨bM,aW,a5,a9⟩:=(e7.elems a6).1 c0
  obtain⟨ds,aN,_,cc,cN,dN,fH,HC,r0⟩:=akd e5 a5
  have hlen:=AF gm
  rw[aN]at gm hlen
  have OY:=L9 a5 a6
  obtain⟨w',bh,bB,c2,hF⟩:=h.write (P:=P) hi aj (vs:=(a.eval q).cells.toList) (p:=j*r.sz+off) (by rw[bM];simp at hlen⊢;omega) OU (AU a6)
  refine fin vL (by rw[Nat.add_assoc];exact bh) (bB _ ((e7.elems cc).2 ⟨by rw[bM,cN],by rw[dN,cN];exact aW,fH,?_⟩) (AU cc))
  rw[r0,←bM]
  refine a9.write (by rw[bM];exact HC) (dd.iff.2 (c5.ye (β:=β) gm fun ayf aF=> ?_)) (by simp at hlen;rw[show ds.length=(a.eval q).cells.toList.length by simp;omega];exact hF)
  rw[List.getElem?_eq_getElem aF]
  exact c2 ayf _ (List.getElem?_eq_getElem aF)
theorem apV {ty:TypeId} {op:Op} {ek:dM} {x y:bk} (ae:cS P ty op=some (.app ek x y)):
 ∃p q t u e,op= .call { callee:= .builtin .append,args:= #[p,q],argTypes:= #[t,u] }∧sF P t=some ek∧dA P p=some x∧dA P q=some y∧P.underlying t=some (.slice e)∧(∃e',P.underlying u=some (.slice e'))∧Jm P t=true:=by
 cases op with
 |call c=>
  cases c with
  |mk callee args c1=>
   simp only[cS,l0]at ae
   split at ae
   ·rename_i _ b
    simp only[pD]at ae
    split at ae
    ·split at ae
     ·obtain⟨v,_,h⟩:=map_some ae;cases h
     ·cases ae
    ·split at ae
     ·cases ae
     ·cases ae
    ·split at ae
     ·cases ae
     ·cases ae
    ·rename_i p q t u a6 Kx
     split at ae
     ·rename_i h1 h2 aq
      split at ae
      ·rename_i aE
       simp only[Option.some.injEq,bx.app.injEq]at ae
       obtain⟨rfl,rfl,rfl⟩:=ae
       simp only[Bool.and_eq_true]at aE
       have uw:args= #[p,q]:=by rw[←Array.toList_inj];exact a6
       have JA:c1= #[t,u]:=by rw[←Array.toList_inj];exact Kx
       subst uw JA
       obtain⟨e',auB⟩:=W1 aE.1
       cases hu:P.underlying t with
       |none=>simp[sF,hu]at h1
       |some td=>
        cases td with
        |slice e=>exact⟨p,q,t,u,e,rfl,h1,h2,aq,hu,⟨e',auB⟩,aE.2⟩
        |_=>simp[sF,hu]at h1
      ·cases ae
     ·cases ae
    ·split at ae
     ·split at ae
      ·cases ae
      ·cases ae
     ·cases ae
    ·cases ae
   ·rcases x6 ae with ⟨bm,_,h⟩|⟨x,_,⟨_,h⟩|⟨_,h⟩⟩<;>cases h
   ·split at ae
    ·cases ae
    ·cases ae
   ·split at ae
    ·cases ae
    ·cases ae
 |makeFunc f x y=>
  exfalso
  cases f with
  |func f=>
   simp only[cS,pX]at ae
   split at ae
   ·cases ae
   ·cases ae
  |_=>cases ae
 |_=>
  exfalso
  first
   |(cases ae;done)
   |(obtain⟨v,_,h⟩:=map_some ae;cases h;done)
   |(simp only[cS,pF,pU,pV,qX,p4,pW,pJ,pK,pL,pM,pN,pO,q2,p5,pP,pY,k5,p6]at ae
     repeat' (split at ae)
     all_goals first
      |(cases ae;done)
      |(obtain⟨v,_,h⟩:=map_some ae;cases h;done))
end
end RV
namespace RV
open Go Go.RowKit
section
variable {N:Nat} {aR:e3} {aL:Mem} {R:bU} {σ σ':St} {a:Act} {w w':World} {rd rd':Mem} {β β':bU} {P:Program} {Γ:Env}
theorem XL {t u e e' ty:TypeId} (hu:P.underlying t=some (.slice e)) (kr:P.underlying u=some (.slice e')) {size:Nat} (aE:g9 P e=some size) {A A':Option Addr} {n cap m c':Nat} {vs:List Value}
 (aB:(Builtin.firstCells size m (.slice A' m c')).run P w= .ok vs.toArray w) (aJ:n+m≤cap) (hw:(match A with|some x=>storeCells (x.add (n*size)) vs|none=>pure ()).run P w= .ok () w'):
 (Builtin.append_ #[t,u] ty #[.slice A n cap,.slice A' m c']).run P w= .ok (.slice A (n+m) cap) w':=by
 cases A with
 |none=>
  simp only[Sem.run_pure,Result.ok.injEq,true_and]at hw
  subst hw
  simp[Builtin.append_,eu hu,eu kr,lW aE,Builtin.lenOf,aJ,aB]
 |some x=>
  simp only at hw
  simp[Builtin.append_,eu hu,eu kr,lW aE,Builtin.lenOf,aJ,aB,hw]
theorem akf {t u e e' ty:TypeId} (hu:P.underlying t=some (.slice e)) (kr:P.underlying u=some (.slice e')) {i:TypeInfo} {z:Value} (hi:P.info? e=some i) (bp:i.zero=some z) {A A':Option Addr} {n cap m c':Nat} {os vs:List Value}
 (bz:∀w',(∀x,w'.cell? x=w.cell? x)→(Builtin.firstCells i.size n (.slice A n cap)).run P w'= .ok os.toArray w') (aB:∀w',(∀x,w'.cell? x=w.cell? x)→(Builtin.firstCells i.size m (.slice A' m c')).run P w'= .ok vs.toArray w')
 (aJ:cap<n+m) (auC:n+m≤4294967296) (aw:i.bytes≤4096):
 (Builtin.append_ #[t,u] ty #[.slice A n cap,.slice A' m c']).run P w=
  .ok (.slice (some ⟨w.heap.size,0,none⟩) (n+m) (grownCap w (n+m) cap e)) (w.drew.alloc (.cells (os.toArray++vs.toArray++Builtin.zeroCells z.cells (grownCap w (n+m) cap e - (n+m))) e)):=by
 have h1:¬(n+m≤cap):=by omega
 have asE:¬(9223372036854775807<((n:Int)+(m:Int))):=by omega
 have h2:(n+m)*i.bytes≤4294967296*4096:=Nat.mul_le_mul auC aw
 have azo:=growslice_fits (need:=n+m) (old:=cap) (bytes:=i.bytes) (by omega) (by omega)
 have asF:¬(281474976710656<Builtin.nextslicecap (n+m) cap*i.bytes):=by omega
 have jw:=bz w.drew (fun _=>rfl)
 have BQ:=aB w.drew (fun _=>rfl)
 simp[Builtin.append_,eu hu,eu kr,Go.sizeOf,typeInfo,zeroValue,hi,bp,Builtin.lenOf,h1,asE,asF,Question.forced,jw,BQ,newRow,grownCap]
 have aF:(os++vs).toArray=os.toArray++vs.toArray:=by simp
 rw[aF,Array.append_assoc]
theorem Yf {f e:Bool} {c:BC} {n:Nat} (h:p2 (some ⟨f,e,c⟩)=some n):c.arr=true∧c.fa=n:=by
 cases c with
 |cells cs=>cases h
 |ints k xs=>simp only[p2,Option.some.injEq]at h;exact⟨rfl,h⟩
 |flts xs=>simp only[p2,Option.some.injEq]at h;exact⟨rfl,h⟩
 |recs sz xs=>simp only[p2,Option.some.injEq]at h;exact⟨rfl,h⟩
 |map n es=>cases h
theorem amL {c:BC} (h:c.arr=true):∃d,c.part 0 c.count=some d∧d.uI=some c:=by
 cases c with
 |cells cs=>cases h
 |ints k xs=>exact⟨.ints k xs,by simp[BC.part,BC.count],rfl⟩
 |flts xs=>exact⟨.flts xs,by simp[BC.part,BC.count],rfl⟩
 |recs sz xs=>exact⟨.recs sz xs,by simp[BC.part,BC.count],rfl⟩
 |map n es=>cases h
theorem Yg {i:Nat} {b:cm} (h:σ.aA i=some b):σ.ea i b=σ:=by
 cases σ with
 |mk af aA=>
  unfold St.ea lb
  congr 1
  funext j
  by_cases aF:j=i
  ·simp only[aF,if_true];exact h.symm
  ·simp only[aF,if_false]
theorem amM (h:bd N aR aL R σ a w rd β) {o:Oper} {ek:dM} {x y:bk} (ae:cS P o.type o.op=some (.app ek x y)) (aD:hK N o.dst=true) {i n:Nat} {c c':BC} {d:D} {K:St→Prop}
 (aj:σ.aU x= .own i 0 n) (aw:σ.aA i=some ⟨false,false,c⟩) (hy:toD σ (σ.aU y)=some d) (ay:E9 c d=some c') (fQ:p2 (σ.aA i)=some ek.sz) (aJ:n=c.count) (NR:c'.count≤b1)
 (b9:K (((σ.forget i).ea i ⟨false,false,c'⟩).put o.dst (.own i 0 c'.count))):eW P N aR aL R o a w K:=by
 obtain⟨p,q,t,u,e,bw,mC,aQ,aO,hu,⟨e',kr⟩,c0⟩:=apV ae
 have N8:sd P e=some ek:=by simpa [sF,hu]using mC
 obtain⟨o6,Jz⟩:=H7 N8
 obtain⟨gf,bh,bB,c2,hF,ou,xJ,Wf,Wg,Wh,UF⟩:=alL ay
 rw[aw]at fQ
 obtain⟨_,fR⟩:=Yf fQ
 have cQ:=ez h aQ
 have gm:=ez h aO
 rw[aj]at cQ
 obtain⟨A',Fb,vs,UG,jx,OZ,GM,UH⟩:=MC h hy bh gm
 obtain⟨d0,O0,asG⟩:=amL bB
 obtain⟨aAj,azd,os,S5,UI,how,Du,auD⟩:=MC h (v:= .own i 0 n) (d:=d0) (by simp only[toD,aw];rw[aJ];exact O0) asG cQ
 simp only[aT]at cQ
 obtain⟨A,cap,O1,tM,hA⟩:=cQ
 rw[O1]at S5
 simp only[Value.slice.injEq]at S5
 obtain⟨rfl,_,rfl⟩:=S5
 rw[hF,fR]at jx
 rw[fR,←aJ]at UI
 have EX:∀{v:Value} {w':World},(Builtin.append_ #[t,u] o.type #[.slice A n cap,.slice A' gf.count Fb]).run P w= .ok v w'→(execOp a.eval o).run P w= .ok (.value v) w':=by
  intro v w' ar
  simp only[execOp,bw,resolve,invoke,builtin,Sem.run_bind,Sem.run_pure,Result.andThen_ok,List.map_toArray,List.map_cons,List.map_nil,O1,UG,ar]
 have UJ:∀w':World,(∀x,w'.cell? x=w.cell? x)→(Builtin.firstCells ek.sz gf.count (.slice A' gf.count Fb)).run P w'= .ok vs.toArray w':=fun w' hw=>WV jx fun j x aF=>by
  obtain⟨aP,h1,h2⟩:=UH j x aF
  exact⟨aP,h1,by rw[hw];exact h2⟩
 have im:∀w':World,(∀x,w'.cell? x=w.cell? x)→(Builtin.firstCells ek.sz n (.slice A n cap)).run P w'= .ok os.toArray w':=fun w' hw=>WV UI fun j x aF=>by
  obtain⟨aP,h1,h2⟩:=auD j x aF
  exact⟨aP,h1,by rw[hw];exact h2⟩
 have EK:c'.count=n+gf.count:=by rw[Wf,aJ]
 by_cases gP:n+gf.count≤cap
 ·rcases hA with ⟨rfl,rfl⟩|⟨r,hi,hA,O2⟩
  ·have h0:gf.count=0:=by omega
   have KA:vs=[]:=List.eq_nil_of_length_eq_zero (by rw[jx,h0,Nat.zero_mul])
   have dO:=Wh h0
   subst dO
   have ss:=XL (ty:=o.type) (w':=w) hu kr o6 (A:=A) (n:=0) (cap:=0) (UJ w fun _=>rfl) gP (by subst KA;cases A<;>rfl)
   rw[h0]at ss
   refine eW.value (EX (by rw[h0];exact ss)) (σ':=(σ.forget i).ea i ⟨false,false,c'⟩) (rd':=rd) (β':=β) ?_ ?_ aD b9
   ·rw[Xr _ bB,Yg aw];exact h.forget i
   ·rw[EK,h0]
    simp only[aT]
    exact⟨A,0,rfl,Nat.le_refl _,.inl (by simp)⟩
  ·obtain⟨b,cH,JB,sJ,gA,_⟩:=h.box i r hi
   rw[aw]at cH;simp only[Option.some.injEq]at cH;subst cH
   obtain⟨bM,aW,a5,a9⟩:=(e7.elems bB).1 JB
   have apW:=(gA rfl).2
   have O2:=O2 apW
   have OY:=L9 a5 bB
   have hlen:(n+gf.count)*ek.sz≤r.len:=by
    have:(n+gf.count)*ek.sz≤cap*ek.sz:=Nat.mul_le_mul_right _ gP
    rw[bM,fR]at O2
    omega
   have arI:∀v∈vs,v.oneCell'=true:=MO UF (AJ (β:=β) GM)
   obtain⟨w',ct,db,fc,xK⟩:=h.write (P:=P) hi aw (vs:=vs) (p:=n*ek.sz) (by rw[jx,←Nat.add_mul];exact hlen) arI (AU bB)
   have ss:=XL (ty:=o.type) (w':=w') hu kr o6 (A:=A) (n:=n) (cap:=cap) (UJ w fun _=>rfl) gP (by
    subst hA
    simp only[x5,Nat.zero_mul,Nat.add_zero]
    exact ct)
   refine eW.value (EX ss) (σ':=(σ.forget i).ea i ⟨false,false,c'⟩) (rd':=rd) (β':=β) ?_ ?_ aD b9
   ·rw[Xr _ c2]
    refine(db c' ((e7.elems c2).2 ⟨by rw[bM,ou],by rw[EK,ou,fR];exact hlen,Wg a5 OZ,?_⟩) (AU c2)).forget i
    rw[xJ,dd.append]
    have auE:c.elems.length=n*ek.sz:=by rw[OY,fR,aJ]
    refine⟨a9.mono (b3.refl _) fun k HD P7=>xK k (by omega),?_⟩
    rw[auE]
    refine dd.ye GM fun j v aF=>fc j v aF
   ·rw[EK]
    simp only[aT]
    exact⟨A,cap,rfl,gP,.inr ⟨r,hi,hA,fun _=>O2⟩⟩
 ·cases ld:P.info? e with
  |none=>simp[Jm,CG,hu,ld]at c0
  |some inf=>
   cases bp:inf.zero with
   |none=>simp[Jm,CG,hu,ld,bp]at c0
   |some z=>
    simp only[Jm,CG,hu,ld,bp,Bool.and_eq_true,decide_eq_true_eq,beq_iff_eq]at c0
    have S6:=Xb ld N8
    have arJ:n+gf.count≤4294967296:=by rw[←EK];exact NR
    have ss:=akf (w:=w) (P:=P) (ty:=o.type) (A:=A) (A':=A') (n:=n) (cap:=cap) (m:=gf.count) (c':=Fb) (os:=os) (vs:=vs) hu kr ld bp (by rw[S6];exact im) (by rw[S6];exact UJ) (by omega) arJ c0.1
    have sN:=grownCap_ge w (n+gf.count) cap e
    generalize grownCap w (n+gf.count) cap e=Wi at ss sN
    have fy:(os.toArray++vs.toArray++Builtin.zeroCells z.cells (Wi - (n+gf.count))).size=Wi*ek.sz:=by
     rw[Array.size_append,Array.size_append,size_zeroCells,List.size_toArray,List.size_toArray,UI,jx,c0.2,S6,←Nat.add_mul,←Nat.add_mul]
     congr 1;omega
    refine eW.value (EX ss) (RO (h.drew) (i:=i) (c:=c') (sz:=ek.sz) (tj σ i _) ?_ (AU c2)) ?_ aD b9
    ·refine(e7.elems c2).2 ⟨by rw[ou,fR];rfl,?_,Wg how OZ,?_⟩
     ·rw[EK,ou,fR]
      show _≤(os.toArray++vs.toArray++Builtin.zeroCells z.cells (Wi - (n+gf.count))).size
      rw[fy]
      exact Nat.mul_le_mul_right _ sN
     ·rw[xJ]
      refine dd.ye (D8 Du GM) fun j v aF=> ?_
      show (w.drew.alloc _).cell? (cellAt w.drew.heap.size (0+j))=some v
      rw[Nat.zero_add,Rn,←Array.getElem?_toList]
      simp only[Array.toList_append,List.append_assoc]
      rw[←List.append_assoc,List.getElem?_append_left]
      ·exact aF
      ·exact(List.getElem?_eq_some_iff.1 aF).1
    ·rw[EK]
     simp only[aT]
     refine⟨_,_,rfl,sN,.inr ⟨ja w.drew _ ek.sz,tk _ _ _,by simp only[ja,Nat.zero_mul,Nat.add_zero];rfl,fun _=> ?_⟩⟩
     simp only[ja]
     rw[fy];omega
end
end RV
namespace RV
open Go Go.RowKit
def hh (regs:List (Option cY)):bU:=fun i=>if bF≤i then (regs[i - bF]?).join else none
def O3 (P:Program) (B:Mem) (f:Nat) (C:gu):Prop:=
 A5 P f∧∀(bm:List ag) (cs:List BC),C.pre bm cs→∀(w:World) (rd:Mem) (regs:List (Option cY)) (vs:Array Value),regs.length=cs.length→b3 B rd→b3 rd w.cell?→bY rd (hh regs) bm vs.toList→
  (∀(k:Nat) (c:BC) (r:cY),cs[k]? =some c→regs[k]? =some (some r)→e7 w rd (hh regs) r c∧dZ w r c∧r.whole=false∧∀aP,r.has aP→rd aP=none)→
  (∀(k:Nat) (c:BC),cs[k]? =some c→regs[k]? =some none→c.isNil=true)→
  (∀j k h9 lK,j≠k→hh regs j=some h9→hh regs k=some lK→∀aP,h9.has aP→¬lK.has aP)→
  Calls P f vs w fun e w'=>∃v rd',e= .returned v∧ih (hh regs) w w'∧b3 rd rd'∧b3 rd' w'.cell?∧(∀aP v,rd' aP=some v→aP.block<w.heap.size→rd aP=some v)∧bj rd' (C.res bm cs) v∧
   (∀(k:Nat) (c:BC) (r:cY),(C.out bm cs)[k]? =some c→regs[k]? =some (some r)→e7 w' rd' (hh regs) r c∧dZ w' r c)∧(∀(k:Nat) (c:BC),(C.out bm cs)[k]? =some c→regs[k]? =some none→c.isNil=true)
def ah (P:Program) (B:Mem) (Γ:Env):Prop:=aat P B Γ∧∀f C,Γ.mt f=some C→O3 P B f C
theorem ah.mono {P:Program} {B DT:Mem} {Γ:Env} (ai:b3 B DT) (h:ah P B Γ):ah P DT Γ:=
 ⟨fun f C e=>⟨(h.1 f C e).1,fun ds aQ w rd vs aw=>(h.1 f C e).2 ds aQ w rd vs (ai.trans aw)⟩,
  fun f C e=>⟨(h.2 f C e).1,fun bm cs aQ w rd regs vs aH aw=>(h.2 f C e).2 bm cs aQ w rd regs vs aH (ai.trans aw)⟩⟩
theorem MQ {regs:List (Option cY)} {i:Nat} {r:cY} (h:hh regs i=some r):∃k,i=bF+k∧regs[k]? =some (some r):=by
 unfold hh at h
 split at h
 ·rename_i hi
  refine⟨i - bF,by omega,?_⟩
  cases e:regs[i - bF]? with
  |none=>rw[e]at h;cases h
  |some x=>rw[e]at h;simp only[Option.join_some]at h;rw[h]
 ·cases h
theorem I6 {regs:List (Option cY)} {k:Nat} {x:Option cY} (h:regs[k]? =some x):hh regs (bF+k)=x:=by
 unfold hh
 rw[if_pos (by omega),show bF+k - bF=k by omega,h]
 rfl
section
variable {N:Nat} {aR:e3} {aL:Mem} {R:bU} {σ σ':St} {a:Act} {w w':World} {rd rd':Mem} {β β':bU} {P:Program} {Γ:Env}
def SK (g:Nat→Nat) (β β':bU) (i:Nat):Prop:=∀r,β i=some r→∃r',β' (g i)=some r'∧r'.bL=r.bL∧r'.off=r.off∧r'.sz=r.sz∧r'.whole=false
mutual
theorem ZW {g:Nat→Nat} :∀(v:ag) (u:Value),(∀i,v.has i=true→SK g β β' i)→aT rd β v u→aT rd β' (v.eh g) u
 | .d x,u,_,H=>by simpa only[ag.eh,aT]using H
 | .agg cs,u,dT,H=>by
   simp only[ag.eh,aT]at*
   obtain⟨vs,e,H⟩:=H
   exact⟨vs,e,It cs _ (fun i hi=>dT i (by simpa only[ag.has]using hi)) H⟩
 | .box i o,u,dT,H=>by
   simp only[ag.eh,aT]at*
   obtain⟨r,h1,h2⟩:=H
   obtain⟨r',bh,bB,c2,_⟩:=dT i (by simp[ag.has]) r h1
   exact⟨r',bh,by rw[bB,c2];exact h2⟩
 | .own i lo n,u,dT,H=>by
   simp only[ag.eh,aT]at*
   obtain⟨A,cap,h1,h2,aq⟩:=H
   refine⟨A,cap,h1,h2,aq.imp id fun⟨r,dP,fw,_⟩=> ?_⟩
   obtain⟨r',bh,bB,c2,hF,ou⟩:=dT i (by simp[ag.has]) r dP
   exact⟨r',bh,by rw[bB,c2,hF];exact fw,fun e=>by rw[ou]at e;cases e⟩
 | .eo i j o,u,dT,H=>by
   simp only[ag.eh,aT]at*
   obtain⟨r,h1,h2⟩:=H
   obtain⟨r',bh,bB,c2,hF,_⟩:=dT i (by simp[ag.has]) r h1
   exact⟨r',bh,by rw[bB,c2,hF];exact h2⟩
 | .mp i,u,dT,H=>by
   simp only[ag.eh,aT]at*
   obtain⟨r,h1,h2⟩:=H
   obtain⟨r',bh,bB,c2,hF,_⟩:=dT i (by simp[ag.has]) r h1
   exact⟨r',bh,by rw[bB];exact h2⟩
 | .dk f x y,u,dT,H=>by
   simp only[ag.eh,aT]at*
   obtain⟨gd,vc,e,H1,fb⟩:=H
   exact⟨gd,vc,e,It x _ (fun i hi=>dT i (by simp[ag.has,hi])) H1,It y _ (fun i hi=>dT i (by simp[ag.has,hi])) fb⟩
 | .dv _,u,_,H=>by simpa only[ag.eh,aT]using H
 | .dB,u,_,H=>by simpa only[ag.eh,aT]using H
 | .any,u,_,_=>by simp only[ag.eh,aT]
theorem It {g:Nat→Nat} :∀(vs:List ag) (us:List Value),(∀i,ag.df i vs=true→SK g β β' i)→bY rd β vs us→bY rd β' (ag.g1 g vs) us
 |[],us,_,H=>by simpa only[ag.g1,bY]using H
 |v::vs,us,dT,H=>by
  simp only[ag.g1,bY]at*
  obtain⟨u,qh,e,h1,h2⟩:=H
  exact⟨u,qh,e,ZW v u (fun i hi=>dT i (by simp[ag.df,hi])) h1,It vs qh (fun i hi=>dT i (by simp[ag.df,hi])) h2⟩
end
mutual
theorem ZX:∀(v:ag) (i:Nat),v.has i=true→i∈v.ids
 | .d _,_,h=>by simp[ag.has]at h
 | .agg cs,i,h=>by simpa only[ag.ids]using CA cs i (by simpa only[ag.has]using h)
 | .box j o,i,h=>by simp only[ag.has,beq_iff_eq]at h;simp[ag.ids,h]
 | .own j o n,i,h=>by simp only[ag.has,beq_iff_eq]at h;simp[ag.ids,h]
 | .eo j o n,i,h=>by simp only[ag.has,beq_iff_eq]at h;simp[ag.ids,h]
 | .mp j,i,h=>by simp only[ag.has,beq_iff_eq]at h;simp[ag.ids,h]
 | .dk f x y,i,h=>by
   simp only[ag.has,Bool.or_eq_true]at h
   simp only[ag.ids,List.mem_append]
   exact h.imp (CA x i) (CA y i)
 | .dv _,_,h=>by simp[ag.has]at h
 | .dB,_,h=>by simp[ag.has]at h
 | .any,_,h=>by simp[ag.has]at h
theorem CA:∀(vs:List ag) (i:Nat),ag.df i vs=true→i∈ag.jb vs
 |[],_,h=>by simp[ag.df]at h
 |v::vs,i,h=>by
  simp only[ag.df,Bool.or_eq_true]at h
  simp only[ag.jb,List.mem_append]
  exact h.imp (ZX v i) (CA vs i)
end
theorem H4:∀{l:List Nat} {i:Nat},i∈l→i∈distinct l
 |j::r,i,h=>by
  simp only[distinct,List.mem_cons,List.mem_filter]
  by_cases e:i=j
  ·exact .inl e
  ·rcases List.mem_cons.1 h with h|h
   ·exact absurd h e
   ·exact .inr ⟨H4 h,by simpa using e⟩
theorem Qo:∀(l:List Nat),(distinct l).Nodup
 |[]=>List.nodup_nil
 |i::r=>by
  simp only[distinct]
  refine List.nodup_cons.2 ⟨by simp,(Qo r).filter _⟩
theorem QA:∀{l:List Nat} {i:Nat},i∈l→l[placeOf l i]? =some i
 |j::r,i,h=>by
  simp only[placeOf]
  split
  ·rename_i e;subst e;rfl
  ·rename_i e
   rcases List.mem_cons.1 h with h|h
   ·exact absurd h.symm e
   ·simpa using QA h
theorem L6 {p:Nat→Bool} :∀{is:List Nat} {cs:List BC},contents σ p is=some cs→cs.length=is.length∧(∀c∈cs,c.tidy p=true)∧∀(k i:Nat),is[k]? =some i→∃e c,σ.aA i=some ⟨false,e,c⟩∧cs[k]? =some c
 |[],cs,h=>by simp only[contents,Option.some.injEq]at h;subst h;simp
 |i::r,cs,h=>by
  simp only[contents]at h
  split at h
  ·rename_i e c cs' aw ay
   split at h
   ·rename_i aQ
    simp only[Option.some.injEq]at h;subst h
    obtain⟨h1,h2,aq⟩:=L6 ay
    refine⟨by simp[h1],?_,fun k j aF=> ?_⟩
    ·intro c' cZ
     rcases List.mem_cons.1 cZ with rfl|cZ
     ·exact aQ
     ·exact h2 c' cZ
    ·cases k with
     |zero=>simp only[List.getElem?_cons_zero,Option.some.injEq]at aF;subst aF;exact⟨e,c,aw,rfl⟩
     |succ k=>simpa using aq k j (by simpa using aF)
   ·cases h
  ·cases h
mutual
theorem YX {p:Nat→Bool} :∀(v:ag),v.tidy p=true→∀i,v.has i=true→p i=true
 | .d _,_,_,h=>by simp[ag.has]at h
 | .agg cs,ae,i,h=>MD cs (by simpa only[ag.tidy]using ae) i (by simpa only[ag.has]using h)
 | .box j o,ae,i,h=>by
   simp only[ag.has,beq_iff_eq]at h;subst h
   simpa only[ag.tidy]using ae
 | .own _ _ _,ae,_,_=>by simp[ag.tidy]at ae
 | .eo _ _ _,ae,_,_=>by simp[ag.tidy]at ae
 | .mp j,ae,i,h=>by
   simp only[ag.has,beq_iff_eq]at h;subst h
   simpa only[ag.tidy]using ae
 | .dk f x y,ae,i,h=>by
   simp only[ag.tidy,Bool.and_eq_true]at ae
   simp only[ag.has,Bool.or_eq_true]at h
   rcases h with h|h
   ·exact MD x ae.1 i h
   ·exact MD y ae.2 i h
 | .dv _,_,_,h=>by simp[ag.has]at h
 | .dB,_,_,h=>by simp[ag.has]at h
 | .any,_,_,h=>by simp[ag.has]at h
theorem MD {p:Nat→Bool} :∀(vs:List ag),ag.ij p vs=true→∀i,ag.df i vs=true→p i=true
 |[],_,_,h=>by simp[ag.df]at h
 |v::vs,ae,i,h=>by
  simp only[ag.ij,Bool.and_eq_true]at ae
  simp only[ag.df,Bool.or_eq_true]at h
  rcases h with h|h
  ·exact YX v ae.1 i h
  ·exact MD vs ae.2 i h
end
def Fc (g:Nat→Nat) (β β':bU) (i:Nat):Prop:=∀r,β i=some r→∃r',β' (g i)=some r'∧r'.bL=r.bL∧r'.off=r.off
mutual
theorem YY {g:Nat→Nat} {p:Nat→Bool} (bb:∀i,p i=true→Fc g β β' i):∀(v:ag) (u:Value),v.tidy p=true→aT rd β v u→aT rd β' (v.eh g) u
 | .d x,u,_,H=>by simpa only[ag.eh,aT]using H
 | .agg cs,u,ae,H=>by
   simp only[ag.eh,aT]at*
   obtain⟨vs,e,H⟩:=H
   exact⟨vs,e,ME bb cs _ (by simpa only[ag.tidy]using ae) H⟩
 | .box i o,u,ae,H=>by
   simp only[ag.eh,aT]at*
   obtain⟨r,h1,h2⟩:=H
   obtain⟨r',bh,bB,c2⟩:=bb i (by simpa only[ag.tidy]using ae) r h1
   exact⟨r',bh,by rw[bB,c2];exact h2⟩
 | .own _ _ _,_,ae,_=>by simp[ag.tidy]at ae
 | .eo _ _ _,_,ae,_=>by simp[ag.tidy]at ae
 | .mp i,u,ae,H=>by
   simp only[ag.eh,aT]at*
   obtain⟨r,h1,h2⟩:=H
   obtain⟨r',bh,bB,c2⟩:=bb i (by simpa only[ag.tidy]using ae) r h1
   exact⟨r',bh,by rw[bB];exact h2⟩
 | .dk f x y,u,ae,H=>by
   simp only[ag.tidy,Bool.and_eq_true]at ae
   simp only[ag.eh,aT]at*
   obtain⟨gd,vc,e,H1,fb⟩:=H
   exact⟨gd,vc,e,ME bb x _ ae.1 H1,ME bb y _ ae.2 fb⟩
 | .dv _,u,_,H=>by simpa only[ag.eh,aT]using H
 | .dB,u,_,H=>by simpa only[ag.eh,aT]using H
 | .any,u,_,_=>by simp only[ag.eh,aT]
theorem ME {g:Nat→Nat} {p:Nat→Bool} (bb:∀i,p i=true→Fc g β β' i):∀(vs:List ag) (us:List Value),ag.ij p vs=true→bY rd β vs us→bY rd β' (ag.g1 g vs) us
 |[],us,_,H=>by simpa only[ag.g1,bY]using H
 |v::vs,us,ae,H=>by
  simp only[ag.ij,Bool.and_eq_true]at ae
  simp only[ag.g1,bY]at*
  obtain⟨u,qh,e,h1,h2⟩:=H
  exact⟨u,qh,e,YY bb v u ae.1 h1,ME bb vs qh ae.2 h2⟩
end
theorem Xs (g:Nat→Nat):∀(vs:List ag),(ag.g1 g vs).length=vs.length
 |[]=>rfl
 |v::vs=>by simp[ag.g1,Xs g vs]
theorem XM {g:Nat→Nat} {p:Nat→Bool} (bb:∀i,p i=true→Fc g β β' i) {b:Nat} :∀(cs:List ag) (o:Nat),ag.ij p cs=true→c5 w rd β b o cs→c5 w rd β' b o (ag.g1 g cs)
 |[],_,_,_=>trivial
 |v::vs,o,ae,⟨⟨u,e,H⟩,fb⟩=>by
  simp only[ag.ij,Bool.and_eq_true]at ae
  exact⟨⟨u,e,YY bb v u ae.1 H⟩,XM bb vs (o+1) ae.2 fb⟩
theorem Yh {g:Nat→Nat} {p:Nat→Bool} (bb:∀i,p i=true→Fc g β β' i) {r r':cY} {c:BC} (aQ:c.tidy p=true) (aw:r'.bL=r.bL) (bz:r'.off=r.off) (aH:r'.len=r.len) (aE:r'.sz=r.sz) (h:e7 w rd β r c):e7 w rd β' r' (c.eh g):=by
 cases r with|mk b o l s ai7=>
 cases r' with|mk fm o' ky ef azp=>
 simp only at aw bz aH aE
 subst aw bz aH aE
 cases c with
 |cells cs=>exact⟨by rw[Xs];exact h.1,XM bb cs _ aQ h.2⟩
 |ints k xs=>exact h
 |flts xs=>exact h
 |recs sz xs=>exact h
 |map n es=>exact h
theorem Yi (g:Nat→Nat) (c:BC):(c.eh g).isMap=c.isMap:=by cases c<;>rfl
theorem Yj (g:Nat→Nat) (c:BC):(c.eh g).isNil=c.isNil:=by cases c<;>rfl
theorem QB:∀{is:List Nat} {cs:List BC} {σ:St},is.Nodup→cs.length=is.length→(iD σ is cs).af=σ.af∧(∀j,j∉is→(iD σ is cs).aA j=σ.aA j)∧
 ∀(k i:Nat) c b,is[k]? =some i→cs[k]? =some c→σ.aA i=some b→(iD σ is cs).aA i=some ⟨b.cx,b.ext,c⟩
 |[],cs,σ,_,_=>by cases cs<;>simp[iD]
 |i::r,[],σ,_,h=>by simp at h
 |i::r,c::cs,σ,aJ,aH=>by
  obtain⟨hi,ar⟩:=List.nodup_cons.1 aJ
  have GK:cs.length=r.length:=by simpa using aH
  simp only[iD]
  cases aw:σ.aA i with
  |none=>
   obtain⟨h1,h2,aq⟩:=QB (σ:=σ) ar GK
   refine⟨h1,fun j aF=>h2 j (fun h=>aF (by simp[h])),fun k j c' b ad ay cH=> ?_⟩
   cases k with
   |zero=>simp only[List.getElem?_cons_zero,Option.some.injEq]at ad;subst ad;rw[aw]at cH;cases cH
   |succ k=>exact aq k j c' b (by simpa using ad) (by simpa using ay) cH
  |some DS=>
   simp only
   obtain⟨h1,h2,aq⟩:=QB (σ:=σ.ea i ⟨DS.cx,DS.ext,c⟩) ar GK
   refine⟨h1,fun j aF=> ?_,fun k j c' b ad ay cH=> ?_⟩
   ·rw[h2 j (fun h=>aF (by simp[h]))]
    simp only[St.ea,lb]
    rw[if_neg (fun h=>aF (by simp[h]))]
   ·cases k with
    |zero=>
     simp only[List.getElem?_cons_zero,Option.some.injEq]at ad ay
     subst ad ay
     rw[h2 _ hi,aw]at*
     simp only[Option.some.injEq]at cH;subst cH
     simp[St.ea,lb]
    |succ k=>
     have cE:r[k]? =some j:=by simpa using ad
     have ei:j≠i:=fun e=>hi (e▸List.mem_of_getElem? cE)
     exact aq k j c' b cE (by simpa using ay) (by simp only[St.ea,lb];rw[if_neg ei];exact cH)
end
end RV
namespace RV
open Go Go.RowKit
def cY.part (r:cY):cY:= { r with whole:=false }
theorem cY.CB {r:cY} {aP:Addr} (h:r.part.has aP):r.has aP:=by
 refine⟨h.1,.inr ?_⟩
 rcases h.2 with h|h
 ·cases h
 ·exact h
section
variable {N:Nat} {aR:e3} {aL:Mem} {R E:bU} {σ σ':St} {a:Act} {w w':World} {rd rd':Mem} {β β':bU} {P:Program} {Γ:Env}
theorem alM (ad:ih E w w') {b o:Nat} (aw:b<w.heap.size) (fZ:∀j r,E j=some r→¬r.has (cellAt b o)):w'.cell? (cellAt b o)=w.cell? (cellAt b o):=by
 rcases ad.block b aw with e|⟨c,t,cx,c',h1,h2,aq,aK⟩|⟨es,k,es',cX,h1,h2,_⟩
 ·exact th e
 ·simp only[World.cell?,cellAt,h1,h2]
  simpa using aK o fZ
 ·simp only[World.cell?,cellAt,h1,h2]
theorem Yk {r:cY} (aQ:tK w r) (ad:ih E w w'):tK w' r:=by
 have bl:=aQ.lt
 obtain⟨arr,e,cx,h0,h1,h2,aq⟩:=aQ
 rcases ad.block r.bL bl with e'|⟨c,t,Uv,c',bh,bB,c2,_⟩|⟨es,k,es',cX,bh,_⟩
 ·exact⟨arr,e,cx,e'.trans h0,h1,h2,aq⟩
 ·rw[h0]at bh
  simp only[Option.some.injEq,Obj.cells.injEq]at bh
  obtain⟨rfl,rfl,rfl⟩:=bh
  exact⟨c',e,cx,bB,by rw[c2];exact h1,h2,fun hw=>⟨(aq hw).1,by rw[c2];exact(aq hw).2.1,(aq hw).2.2⟩⟩
 ·rw[h0]at bh;cases bh
theorem XN {r:cY} {c:BC} (aQ:dZ w r c) (ad:ih E w w'):dZ w' r c:=by
 have bl:=aQ.lt
 unfold dZ at*
 split at aQ
 ·rename_i hm
  rw[if_pos hm]
  obtain⟨⟨es,k,h⟩,h2⟩:=aQ
  refine⟨?_,h2⟩
  rcases ad.block r.bL bl with e'|⟨c,t,Uv,c',bh,bB,c2,_⟩|⟨fs,q,Uw,qy,bh,bB,_⟩
  ·exact⟨es,k,e'.trans h⟩
  ·rw[h]at bh;cases bh
  ·exact⟨Uw,qy,bB⟩
 ·rename_i hm
  rw[if_neg hm]
  exact Yk aQ ad
theorem akg {r:cY} {c c':BC} (aQ:dZ w r c) (ad:ih E w w') (o8:dZ w' r.part c'):dZ w' r c':=by
 cases mD:c'.isMap with
 |true=>
  unfold dZ at o8⊢
  rw[if_pos mD]at o8⊢
  exact o8
 |false=>
  have q:=o8.cells mD
  refine dZ.of ?_ mD
  cases hm:c.isMap with
  |false=>exact Yk (aQ.cells hm) ad
  |true=>
   exfalso
   have:=XN aQ ad
   unfold dZ at this
   rw[if_pos hm]at this
   obtain⟨⟨es,k,h⟩,_⟩:=this
   obtain⟨arr,t,cx,et,_⟩:=q
   have et:w'.heap[r.bL]? =some (.cells arr t cx):=et
   rw[h]at et;cases et
def lY (β:bU) (is:List Nat):List (Option cY):=is.map fun i=>(β i).map cY.part
theorem Cq {is:List Nat} {j:Nat} {r':cY} (h:hh (lY β is) j=some r'):∃(k i:Nat) (r:cY),j=bF+k∧is[k]? =some i∧β i=some r∧r'=r.part:=by
 obtain⟨k,rfl,ad⟩:=MQ h
 simp only[lY,List.getElem?_map]at ad
 cases hi:is[k]? with
 |none=>rw[hi]at ad;cases ad
 |some i=>
  rw[hi]at ad
  simp only[Option.map_some,Option.some.injEq]at ad
  cases ar:β i with
  |none=>rw[ar]at ad;cases ad
  |some r=>rw[ar]at ad;simp only[Option.map_some,Option.some.injEq]at ad;exact⟨k,i,r,rfl,hi,ar,ad.symm⟩
theorem aoj {is:List Nat} {i:Nat} (h:i∈is):∃k:Nat,is[k]? =some i:=by
 obtain⟨k,ad,e⟩:=List.mem_iff_getElem.1 h
 exact⟨k,by rw[List.getElem?_eq_getElem ad,e]⟩
theorem akI (h:bd N aR aL R σ a w rd β) {is:List Nat} (aJ:is.Nodup) {cs cs':List BC} {q:Nat→Bool} (fR:contents σ q is=some cs) (aH:cs'.length=cs.length)
 (ad:ih (hh (lY β is)) w w') (hle:b3 rd rd') (hw:b3 rd' w'.cell?) (hold:∀aP v,rd' aP=some v→aP.block<w.heap.size→rd aP=some v)
 (GN:∀(k i:Nat) (c:BC) (r:cY),cs'[k]? =some c→is[k]? =some i→β i=some r→e7 w' rd' β r c∧dZ w' r.part c) (auF:∀(k:Nat) (c:BC),cs'[k]? =some c→(lY β is)[k]? =some none→c.isNil=true):
 bd N aR aL R (iD σ is cs') a w' rd' β:=by
 obtain⟨bR,bS,hj⟩:=L6 fR
 obtain⟨s1,s2,qA⟩:=QB (σ:=σ) aJ (aH.trans bR)
 have EY:∀{i:Nat},i∈is→∃(k:Nat) (e:Bool) (c c':BC),is[k]? =some i∧σ.aA i=some ⟨false,e,c⟩∧cs'[k]? =some c'∧(iD σ is cs').aA i=some ⟨false,e,c'⟩:=by
  intro i hi
  obtain⟨k,cE⟩:=aoj hi
  obtain⟨e,c,aw,ay⟩:=hj k i cE
  have bl:k<cs'.length:=by rw[aH];exact(List.getElem?_eq_some_iff.1 ay).1
  exact⟨k,e,c,cs'[k],cE,aw,List.getElem?_eq_getElem bl,qA k i _ _ cE (List.getElem?_eq_getElem bl) aw⟩
 have Sn:∀{aP:Addr} {j:Nat} {r':cY},hh (lY β is) j=some r'→r'.has aP→∃i r,i∈is∧β i=some r∧r.has aP:=by
  intro aP j r' aF ec
  obtain⟨k,i,r,_,hi,ar,rfl⟩:=Cq aF
  exact⟨i,r,List.mem_of_getElem? hi,ar,cY.CB ec⟩
 exact {
  size:=h.size
  defers:=h.defers
  cO:=by
   refine⟨ad.os.trans h.cO.os,ad.tape.trans h.cO.tape,ad.output.trans h.cO.output,Nat.le_trans h.cO.size ad.size,fun b aw=>(h.cO.block b aw).trans ?_⟩
   rcases ad.block b (Nat.lt_of_lt_of_le aw h.cO.size)with e|⟨c,t,cx,c',h1,h2,aq,aK⟩|⟨es,q,es',qy,h1,h2,j,r',aF,ec⟩
   ·exact .inl e
   ·refine .inr (.inl ⟨c,t,cx,c',h1,h2,aq,fun o fZ=>aK o fun j r' aF ec=> ?_⟩)
    obtain⟨i,r,hi,ar,fC⟩:=Sn aF ec
    obtain⟨k,e,dr,ae4,_,hx,_,_⟩:=EY hi
    obtain⟨DS,ly,_,_,gA,eG⟩:=h.box i r ar
    rw[hx]at ly;simp only[Option.some.injEq]at ly;subst ly
    cases e with
    |false=>have:=(gA rfl).1;have:=fC.1;simp only[cellAt]at this;omega
    |true=>exact fZ i r (eG rfl).1 fC
   ·obtain⟨k,i,r,_,hi,ar,rfl⟩:=Cq aF
    obtain⟨k,e,dr,ae4,_,hx,_,_⟩:=EY (List.mem_of_getElem? hi)
    obtain⟨DS,ly,_,_,gA,eG⟩:=h.box i r ar
    rw[hx]at ly;simp only[Option.some.injEq]at ly;subst ly
    cases e with
    |false=>have:=(gA rfl).1;have:r.bL=b:=ec;omega
    |true=>exact .inr (.inr ⟨es,q,es',qy,h1,h2,i,r,(eG rfl).1,ec⟩)
  dH:=fun b o aw=>by
   obtain⟨bh,bB⟩:=h.dH b o aw
   have bl:=(Array.getElem?_eq_some_iff.1 bB).1
   refine⟨bh.to (fun aP v e ad=> .inl (hold aP v e (by omega))) (fun i r hi e=>⟨i,r,hi,e⟩),?_⟩
   rcases ad.block b bl with e|⟨c,t,cx,c',h1,h2,aq,aK⟩|⟨es,q,es',qy,h1,h2,j,r',aF,ec⟩
   ·rw[e];exact bB
   ·rw[bB]at h1
    rcases bh with bh|⟨bh,_⟩
    ·exact absurd (Option.some.inj h1) (bh.1 _ _ _)
    ·have e:c'=c:=Array.ext_getElem? fun o=>aK o fun j r' aF ec=>by
      obtain⟨i,r,hi,ar,fC⟩:=Sn aF ec
      exact bh i r ar fC.1.symm
     rw[h2,e,←h1]
   ·rw[bB]at h1
    rcases bh with bh|⟨bh,_⟩
    ·exact absurd (Option.some.inj h1) (bh.2 _ _)
    ·obtain⟨k,i,r,_,hi,ar,rfl⟩:=Cq aF
     exact absurd ec (bh i r ar)
  dg:=hw
  dR:=h.dR.trans hle
  aL:=fun aP v e bl=>h.aL aP v (hold aP v e (Nat.lt_of_lt_of_le bl h.cO.size)) bl
  eR:=fun i r b hi aw bp aP fC=>by
   obtain⟨cK,gQ,_,aQ,_⟩:=h.box i r hi
   have Dq:cK.cx=false:=by
    by_cases yX:i∈is
    ·obtain⟨k,e,c,c',_,hx,_,cH⟩:=EY yX
     rw[hx]at gQ;simp only[Option.some.injEq]at gQ;subst gQ;rfl
    ·rw[s2 i yX,gQ]at aw
     simp only[Option.some.injEq]at aw;subst aw;exact bp
   cases e:rd' aP with
   |none=>rfl
   |some v=>
    have:=hold aP v e (by rw[fC.1];exact aQ.lt)
    rw[h.eR i r cK hi gQ Dq aP fC]at this
    cases this
  eX:=fun t=>by rw[s1];exact aT.mono hle _ _ (h.eX t)
  box:=fun i r hi=>by
   obtain⟨cK,gQ,c0,aQ,gA,eG⟩:=h.box i r hi
   have o8:=XN aQ ad
   by_cases yX:i∈is
   ·obtain⟨k,e,c,c',rL,hx,cZ,cH⟩:=EY yX
    rw[hx]at gQ;simp only[Option.some.injEq]at gQ;subst gQ
    obtain⟨ct,db⟩:=GN k i c' r cZ rL hi
    exact⟨⟨false,e,c'⟩,cH,ct,akg aQ ad db,gA,eG⟩
   ·refine⟨cK,by rw[s2 i yX];exact gQ,?_,o8,gA,eG⟩
    refine c0.mono hle (fun o h1 h2=>alM ad aQ.lt fun j r' aF ec=> ?_) (fun cs _ v _ u H=>aT.mono hle v u H) (fun cp=> ?_)
    ·obtain⟨lM,bA,hi',je,fC⟩:=Sn aF ec
     exact h.eE i lM r bA (fun e=>yX (e▸hi')) hi je _ ⟨rfl,.inr ⟨h1,h2⟩⟩ fC
    ·rcases ad.block r.bL aQ.lt with e|⟨c,t,cx,c',dP,_⟩|⟨es,q,es',qy,_,_,j,r',aF,ec⟩
     ·exact e
     ·exfalso
      unfold dZ at aQ
      rw[if_pos cp]at aQ
      obtain⟨⟨es,k,kS⟩,_⟩:=aQ
      rw[kS]at dP;cases dP
     ·exfalso
      obtain⟨k,lM,bA,_,hi',je,rfl⟩:=Cq aF
      have hi':=List.mem_of_getElem? hi'
      obtain⟨k,e,dr,ae4,_,hx,_,_⟩:=EY hi'
      exact h.alo (j:=lM) (i:=i) (fun e=>yX (by rw[←e];exact hi')) hi gQ cp je hx ec
  eM:=fun i b aw hi=>by
   by_cases yX:i∈is
   ·obtain⟨k,e,c,c',rL,hx,cZ,cH⟩:=EY yX
    rw[cH]at aw
    simp only[Option.some.injEq]at aw;subst aw
    have lf:(lY β is)[k]? =some none:=by simp[lY,rL,hi]
    exact⟨(h.eM i _ hx hi).1,auF k c' cZ lf⟩
   ·rw[s2 i yX]at aw
    exact h.eM i b aw hi
  eE:=h.eE }
theorem QN {f:Nat} {C:gu} (c0:O3 P aL f C) (h:bd N aR aL R σ a w rd β) {o:Oper} (aD:hK N o.dst=true) {vs:List ag} {us:Array Value} (hu:bY rd β vs us.toList)
 (ar:(execOp a.eval o).run P w= .ok (.enter f us) w) {K:St→Prop} {is:List Nat} (hnd:is.Nodup) (Fe:∀i,ag.df i vs=true→i∈is) (ad:yn C o.dst σ K vs is):∀(next:Act→World→Prop) (Q:Exit→Act→World→Prop),(∀σ' b7 w' rd' β',K σ'→bd N aR aL R σ' b7 w' rd' β'→next b7 w')→o.wp P a w next Q:=by
 intro next Q aJ
 unfold yn at ad
 split at ad
 ·rename_i cs fR
  simp only at ad
  obtain⟨aQ,hlen,jv,ad⟩:=ad
  obtain⟨bR,bS,hj⟩:=L6 fR
  have arK:∀i,is.contains i=true→Fc (fun i=>bF+placeOf is i) β (hh (lY β is)) i:=by
   intro i hi r Dv
   have BN:=QA (l:=is) (i:=i) (by simpa using hi)
   exact⟨r.part,I6 (by simp[lY,BN,Dv]),rfl,rfl⟩
  have apX:∀i,ag.df i vs=true→SK (fun i=>bF+placeOf is i) β (hh (lY β is)) i:=by
   intro i hi r Dv
   have BN:=QA (Fe i hi)
   exact⟨r.part,I6 (by simp[lY,BN,Dv]),rfl,rfl,rfl,rfl⟩
  have arL:∀i,Be is.length i=true→Fc (fun i=>is.getD (i - bF) 0) (hh (lY β is)) β i:=by
   intro i hi r' Dv
   obtain⟨k,lM,r,rfl,cE,ec,rfl⟩:=Cq Dv
   refine⟨r,?_,rfl,rfl⟩
   show β (is.getD (bF+k - bF) 0)=some r
   rw[show bF+k - bF=k by omega,List.getD_eq_getElem?_getD,cE]
   exact ec
  have fz:=It vs us.toList apX hu
  unfold Oper.wp
  rw[ar,Oper.upon_enter]
  refine(c0.2 _ _ aQ w rd (lY β is) us (by simp[lY,bR]) h.dR h.dg fz ?_ ?_ ?_).mono ?_
  ·intro k c r ay lf
   simp only[List.getElem?_map]at ay
   cases dO:cs[k]? with
   |none=>rw[dO]at ay;cases ay
   |some dr=>
    rw[dO]at ay
    simp only[Option.map_some,Option.some.injEq]at ay
    subst ay
    have bl:k<is.length:=by rw[←bR];exact(List.getElem?_eq_some_iff.1 dO).1
    obtain⟨e,c',aw,cZ⟩:=hj k is[k] (List.getElem?_eq_getElem bl)
    rw[dO]at cZ;simp only[Option.some.injEq]at cZ;subst cZ
    simp only[lY,List.getElem?_map,List.getElem?_eq_getElem bl,Option.map_some,Option.some.injEq]at lf
    cases cH:β is[k]with
    |none=>rw[cH]at lf;cases lf
    |some ia=>
     rw[cH]at lf
     simp only[Option.map_some,Option.some.injEq]at lf
     subst lf
     obtain⟨DS,ly,JB,sJ,_⟩:=h.box _ ia cH
     rw[aw]at ly;simp only[Option.some.injEq]at ly;subst ly
     refine⟨Yh arK (bS dr (List.mem_of_getElem? dO)) rfl rfl rfl rfl JB,?_,rfl,fun aP fC=>h.eR _ ia _ cH aw rfl aP (cY.CB fC)⟩
     refine dZ.congr ?_ (Yi _ dr)
     unfold dZ at sJ⊢
     split at sJ
     ·rename_i hm;rw[if_pos hm];exact sJ
     ·rename_i hm
      rw[if_neg hm]
      obtain⟨arr,t,cx,dP,fw,gF,_⟩:=sJ
      exact⟨arr,t,cx,dP,fw,gF,fun e=>by cases e⟩
  ·intro k c ay lf
   simp only[List.getElem?_map]at ay
   cases dO:cs[k]? with
   |none=>rw[dO]at ay;cases ay
   |some dr=>
    rw[dO]at ay
    simp only[Option.map_some,Option.some.injEq]at ay
    subst ay
    have bl:k<is.length:=by rw[←bR];exact(List.getElem?_eq_some_iff.1 dO).1
    obtain⟨e,c',aw,cZ⟩:=hj k is[k] (List.getElem?_eq_getElem bl)
    rw[dO]at cZ;simp only[Option.some.injEq]at cZ;subst cZ
    simp only[lY,List.getElem?_map,List.getElem?_eq_getElem bl,Option.map_some,Option.some.injEq]at lf
    rw[Yj]
    cases cH:β is[k]with
    |none=>exact(h.eM _ _ aw cH).2
    |some ia=>rw[cH]at lf;cases lf
  ·intro j k h9 lK sG aF cE aP asH asI
   obtain⟨bh,i1,bA,aN,h1,Uy,rfl⟩:=Cq aF
   obtain⟨bB,i2,bX,aX,h2,UA,rfl⟩:=Cq cE
   refine h.eE i1 i2 bA bX (fun e=>sG ?_) Uy UA aP (cY.CB asH) (cY.CB asI)
   subst e
   have gA:=(List.getElem?_eq_some_iff.1 h1).1
   have eG:=(List.getElem?_eq_some_iff.1 h2).1
   have:bh=bB:=(List.getElem_inj (h₀:=gA) (h₁:=eG) hnd).1 (by rw[(List.getElem?_eq_some_iff.1 h1).2,(List.getElem?_eq_some_iff.1 h2).2])
   omega
  ·rintro e cf ⟨v,gy,rfl,dP,fw,gF,uJ,Wj,ayg,ayh⟩
   have ay:=akI h hnd fR (cs':=(C.out (ag.g1 (fun i=>bF+placeOf is i) vs) (cs.map (BC.eh fun i=>bF+placeOf is i))).map (BC.eh fun i=>is.getD (i - bF) 0)) (by rw[List.length_map,hlen,bR]) dP fw gF uJ (fun k i c r cZ rL Dv=> ?_) (fun k c cZ lf=> ?_)
   ·exact aJ _ _ _ _ _ ad (ay.put aD (pG Wj))
   ·simp only[List.getElem?_map]at cZ
    simp only[List.all_eq_true]at jv
    cases dO:(C.out (ag.g1 (fun i=>bF+placeOf is i) vs) (cs.map (BC.eh fun i=>bF+placeOf is i)))[k]? with
    |none=>rw[dO]at cZ;cases cZ
    |some dr=>
     rw[dO]at cZ
     simp only[Option.map_some,Option.some.injEq]at cZ
     subst cZ
     have ae5:=ayg k dr r.part dO (by simp[lY,rL,Dv])
     exact⟨Yh (r:=r.part) arL (jv dr (List.mem_of_getElem? dO)) rfl rfl rfl rfl ae5.1,ae5.2.congr (Yi _ dr)⟩
   ·simp only[List.getElem?_map]at cZ
    cases dO:(C.out (ag.g1 (fun i=>bF+placeOf is i) vs) (cs.map (BC.eh fun i=>bF+placeOf is i)))[k]? with
    |none=>rw[dO]at cZ;cases cZ
    |some dr=>
     rw[dO]at cZ
     simp only[Option.map_some,Option.some.injEq]at cZ
     subst cZ
     rw[Yj]
     exact ayh k dr dO lf
 ·exact ad.elim
theorem Ee (σ:St) (is:List Nat):(reach σ is).Nodup∧∀i∈is,i∈reach σ is:=
 ⟨Qo _,fun i hi=>H4 (List.mem_append.2 (.inl hi))⟩
end
end RV
namespace RV
open Go Go.RowKit
section
variable {N:Nat} {aR:e3} {aL:Mem} {R:bU} {σ σ':St} {a:Act} {w w':World} {rd rd':Mem} {β β':bU} {P:Program} {Γ:Env}
theorem YZ {α iS:Type} {f:α→iS} {lo n:Nat} {xs aC:List α} :(over lo n xs aC).map f=(xs.map f).take lo++(aC.map f).take (min aC.length n)++(xs.map f).drop (lo+min aC.length n):=by
 simp only[over,List.map_append,List.map_take,List.map_drop,List.length_take]
 rw[Nat.min_comm n]
 congr 2
 rw[←List.map_take,←List.map_take]
 congr 1
 rcases Nat.le_total aC.length n with h|h
 ·rw[Nat.min_eq_left h,List.take_of_length_le h,List.take_of_length_le (Nat.le_refl _)]
 ·rw[Nat.min_eq_right h]
theorem Q7 {α:Type} {lo n:Nat} {xs aC:List α} (h:min aC.length n=0):over lo n xs aC=xs:=by
 have:aC.take n=[]:=List.eq_nil_of_length_eq_zero (by rw[List.length_take];omega)
 simp[over,this]
theorem QC {α:Type} {lo n:Nat} {xs aC:List α} (h:lo+n≤xs.length):(over lo n xs aC).length=xs.length:=by
 simp only[over,List.length_append,List.length_take,List.length_drop];omega
theorem ajT {α:Type} {sz lo n:Nat} {xs aC:List (List α)} (aj:∀r∈xs,r.length=sz) (hy:∀r∈aC,r.length=sz):
 (over lo n xs aC).flatten=xs.flatten.take (lo*sz)++aC.flatten.take (min aC.length n*sz)++xs.flatten.drop (lo*sz+min aC.length n*sz):=by
 simp only[over,List.flatten_append,List.length_take]
 rw[Qt _ aj,Xa _ aj,Nat.min_comm n,Nat.add_mul]
 congr 2
 rw[←Qt _ hy]
 congr 1
 rcases Nat.le_total aC.length n with h|h
 ·rw[Nat.min_eq_left h,List.take_of_length_le h,List.take_of_length_le (Nat.le_refl _)]
 ·rw[Nat.min_eq_right h]
theorem akJ {c c':BC} {lo n m:Nat} {d:D} (h:EV c lo n d=some (c',m)):∃gf,d.uI=some gf∧c.arr=true∧c'.arr=true∧gf.fa=c.fa∧c'.fa=c.fa∧m=min gf.count n∧c'.count=c.count∧lo+n≤c.count∧
 (m=0→c'=c)∧(gf.elems.map ag.d).all ag.dV=true∧(c.wf→gf.wf→c'.wf∧c'.elems=c.elems.take (lo*c.fa)++gf.elems.take (m*c.fa)++c.elems.drop (lo*c.fa+m*c.fa)):=by
 unfold EV at h
 split at h
 ·rename_i k xs cX aC
  split at h
  ·rename_i e;obtain⟨rfl,aH⟩:=e
   simp only[Option.some.injEq,Prod.mk.injEq]at h;obtain⟨rfl,rfl⟩:=h
   exact⟨.ints cX aC,rfl,rfl,rfl,rfl,rfl,rfl,by simp[BC.count,QC aH],aH,fun e=>by rw[Q7 e],by simp[BC.elems,ag.dV],fun _ _=>⟨trivial,by simp only[BC.elems,BC.fa,YZ,Nat.mul_one]⟩⟩
  ·cases h
 ·rename_i xs aC
  split at h
  ·rename_i aH
   simp only[Option.some.injEq,Prod.mk.injEq]at h;obtain⟨rfl,rfl⟩:=h
   exact⟨.flts aC,rfl,rfl,rfl,rfl,rfl,rfl,by simp[BC.count,QC aH],aH,fun e=>by rw[Q7 e],by simp[BC.elems,ag.dV],fun _ _=>⟨trivial,by simp only[BC.elems,BC.fa,YZ,Nat.mul_one]⟩⟩
  ·cases h
 ·rename_i sz xs Dl aC
  split at h
  ·rename_i e;obtain⟨rfl,aH,UD⟩:=e
   simp only[Option.some.injEq,Prod.mk.injEq]at h;obtain⟨rfl,rfl⟩:=h
   refine⟨.recs Dl aC,rfl,rfl,rfl,rfl,rfl,rfl,by simp[BC.count,QC aH],aH,fun e=>by rw[Q7 e],by simpa [BC.elems,Em]using UD,fun h1 h2=>⟨fun r ar=> ?_,ajT h1 h2⟩⟩
   simp only[over,List.mem_append]at ar
   rcases ar with (ar|ar)|ar
   ·exact h1 r (List.mem_of_mem_take ar)
   ·exact h2 r (List.mem_of_mem_take ar)
   ·exact h1 r (List.mem_of_mem_drop ar)
  ·cases h
 ·cases h
theorem aok {ty:TypeId} {op:Op} {ek:dM} {x y:bk} (ae:cS P ty op=some (.copy ek x y)):
 ∃p q t u e,op= .call { callee:= .builtin .copy,args:= #[p,q],argTypes:= #[t,u] }∧sF P t=some ek∧dA P p=some x∧dA P q=some y∧P.underlying t=some (.slice e):=by
 cases op with
 |call c=>
  cases c with
  |mk callee args c1=>
   simp only[cS,l0]at ae
   split at ae
   ·rename_i _ b
    simp only[pD]at ae
    split at ae
    ·split at ae
     ·obtain⟨v,_,h⟩:=map_some ae;cases h
     ·cases ae
    ·split at ae
     ·cases ae
     ·cases ae
    ·split at ae
     ·cases ae
     ·cases ae
    ·split at ae
     ·split at ae
      ·cases ae
      ·cases ae
     ·cases ae
    ·rename_i p q t u a6 Kx
     split at ae
     ·rename_i h1 h2 aq
      split at ae
      ·rename_i aE
       simp only[Option.some.injEq,bx.copy.injEq]at ae
       obtain⟨rfl,rfl,rfl⟩:=ae
       have uw:args= #[p,q]:=by rw[←Array.toList_inj];exact a6
       have JA:c1= #[t,u]:=by rw[←Array.toList_inj];exact Kx
       subst uw JA
       cases hu:P.underlying t with
       |none=>simp[sF,hu]at h1
       |some td=>
        cases td with
        |slice e=>exact⟨p,q,t,u,e,rfl,h1,h2,aq,hu⟩
        |_=>simp[sF,hu]at h1
      ·cases ae
     ·cases ae
    ·cases ae
   ·rcases x6 ae with ⟨bm,_,h⟩|⟨x,_,⟨_,h⟩|⟨_,h⟩⟩<;>cases h
   ·split at ae
    ·cases ae
    ·cases ae
   ·split at ae
    ·cases ae
    ·cases ae
 |makeFunc f x y=>
  exfalso
  cases f with
  |func f=>
   simp only[cS,pX]at ae
   split at ae
   ·cases ae
   ·cases ae
  |_=>cases ae
 |_=>
  exfalso
  first
   |(cases ae;done)
   |(obtain⟨v,_,h⟩:=map_some ae;cases h;done)
   |(simp only[cS,pF,pU,pV,qX,p4,pW,pJ,pK,pL,pM,pN,pO,q2,p5,pP,pY,k5,p6]at ae
     repeat' (split at ae)
     all_goals first
      |(cases ae;done)
      |(obtain⟨v,_,h⟩:=map_some ae;cases h;done))
theorem Yl {m:Mem} :∀{ds:List D} {us:List Value} (n:Nat),bP m ds us→bP m (ds.take n) (us.take n)
 |[],us,n,h=>by simp only[bP]at h;subst h;simp[bP]
 |d::ds,us,0,_=>by simp[bP]
 |d::ds,us,n+1,h=>by
  simp only[bP]at h
  obtain⟨v,vs,rfl,h1,h2⟩:=h
  simp only[List.take_succ_cons,bP]
  exact⟨v,vs.take n,rfl,h1,Yl n h2⟩
theorem ajH {size m l cap:Nat} {A:Option Addr} {vs:List Value} (aH:vs.length=m*size) (aB:∀j x,vs[j]? =some x→∃aP,A=some aP∧w.cell? (aP.add j)=some x):
 (Builtin.firstCells size m (.slice A l cap)).run P w= .ok vs.toArray w:=by
 cases A with
 |none=>
  have:vs=[]:=by
   cases vs with
   |nil=>rfl
   |cons v vs=>obtain⟨aP,h,_⟩:=aB 0 v rfl;cases h
  subst this
  exact run_firstCells_none w size m l cap
 |some aP=>
  exact run_firstCells_some w size m aP l cap vs aH fun j x aF=>by
   obtain⟨auw,h1,h2⟩:=aB j x aF
   simp only[Option.some.injEq]at h1
   subst h1;exact h2
theorem alN (h:bd N aR aL R σ a w rd β) {o:Oper} {ek:dM} {x y:bk} (ae:cS P o.type o.op=some (.copy ek x y)) (aD:hK N o.dst=true) {i lo n m:Nat} {e:Bool} {c c':BC} {d:D} {K:St→Prop}
 (aj:σ.aU x= .own i lo n) (aw:σ.aA i=some ⟨false,e,c⟩) (hy:toD σ (σ.aU y)=some d) (ay:EV c lo n d=some (c',m)) (fQ:p2 (σ.aA i)=some ek.sz)
 (b9:K ((σ.ea i ⟨false,e,c'⟩).put o.dst (.d (.int .i64 m)))):eW P N aR aL R o a w K:=by
 obtain⟨p,q,t,u,Aq,bw,mC,aQ,aO,hu⟩:=aok ae
 have N8:sd P Aq=some ek:=by simpa [sF,hu]using mC
 obtain⟨o6,Jz⟩:=H7 N8
 obtain⟨gf,bh,bB,c2,hF,ou,xJ,Wf,Wg,Wh,UF,auG⟩:=akJ ay
 rw[aw]at fQ
 obtain⟨_,fR⟩:=Yf fQ
 have cQ:=ez h aQ
 have gm:=ez h aO
 rw[aj]at cQ
 obtain⟨A',Fb,vs,UG,jx,OZ,GM,UH⟩:=MC h hy bh gm
 simp only[aT]at cQ
 obtain⟨A,cap,O1,tM,hA⟩:=cQ
 rw[hF,fR]at jx
 have vM:(vs.take (m*ek.sz)).length=m*ek.sz:=by
  rw[List.length_take,jx,xJ]
  exact Nat.min_eq_left (Nat.mul_le_mul_right _ (Nat.min_le_left _ _))
 have hf:(Builtin.firstCells ek.sz m (.slice A' gf.count Fb)).run P w= .ok (vs.take (m*ek.sz)).toArray w:=ajH vM fun j z aF=>UH j z (by
  rw[List.getElem?_take]at aF
  split at aF
  ·exact aF
  ·cases aF)
 have CY:Nat.min gf.count n=m:=xJ.symm
 have EX:∀{w':World},(match A with|some x=>storeCells x (vs.take (m*ek.sz))|none=>pure ()).run P w= .ok () w'→(execOp a.eval o).run P w= .ok (.value (.int .i64 m)) w':=by
  intro w' ar
  have arM:(Builtin.copy_ #[t,u] o.type #[.slice A n cap,.slice A' gf.count Fb]).run P w= .ok (.int .i64 m) w':=by
   cases A with
   |none=>
    simp only[Sem.run_pure,Result.ok.injEq,true_and]at ar
    subst ar
    simp[Builtin.copy_,eu hu,lW o6,Builtin.lenOf,CY,hf,goInt]
   |some x=>
    simp only at ar
    simp[Builtin.copy_,eu hu,lW o6,Builtin.lenOf,CY,hf,ar,goInt]
  simp only[execOp,bw,resolve,invoke,builtin,Sem.run_bind,Sem.run_pure,Result.andThen_ok,List.map_toArray,List.map_cons,List.map_nil,O1,UG,arM]
 have hval:∀{rd:Mem} {β:bU},aT rd β (.d (.int .i64 m)) (.int .i64 m):=by intros;simp only[aT,bj]
 rcases hA with ⟨rfl,rfl⟩|⟨r,hi,hA,_⟩
 ·have KB:m=0:=by rw[xJ];exact Nat.min_zero _
  have dO:=Wh KB
  subst dO
  refine eW.value (EX (w':=w) (by subst KB;cases A<;>simp[storeCells])) (σ':=σ.ea i ⟨false,e,c'⟩) (rd':=rd) (β':=β) (by rw[Yg aw];exact h) hval aD b9
 ·obtain⟨b,cH,JB,sJ,gA,_⟩:=h.box i r hi
  rw[aw]at cH;simp only[Option.some.injEq]at cH;subst cH
  obtain⟨bM,aW,a5,a9⟩:=(e7.elems bB).1 JB
  obtain⟨ct,db⟩:=auG a5 OZ
  have OY:=L9 a5 bB
  have azq:m≤n:=by rw[xJ];exact Nat.min_le_right _ _
  have N9:lo*ek.sz+m*ek.sz≤c.count*ek.sz:=by rw[←Nat.add_mul];exact Nat.mul_le_mul_right _ (by omega)
  have abG:=Yl (m*ek.sz) GM
  have z6:(gf.elems.take (m*ek.sz)).length=m*ek.sz:=by rw[←AH abG,vM]
  obtain⟨w',dP,fw,gF,uJ⟩:=h.write (P:=P) hi aw (vs:=vs.take (m*ek.sz)) (p:=lo*ek.sz) (by rw[vM];rw[fR]at aW;omega) (fun v aB=>MO UF (AJ (β:=β) GM) v (List.mem_of_mem_take aB)) (AU bB)
  refine eW.value (EX (w':=w') (by
   subst hA
   simp only[bM,fR]
   exact dP)) (fw c' ((e7.elems c2).2 ⟨by rw[bM,ou],by rw[Wf,ou];exact aW,ct,?_⟩) (AU c2)) hval aD b9
  rw[db,fR]
  have:=a9.write (w':=w') (p:=lo*ek.sz) (vs:=gf.elems.take (m*ek.sz)) (by rw[z6,OY,fR];exact N9) (dd.ye abG fun j v aF=>gF j v aF) (by rw[z6];rw[vM]at uJ;exact uJ)
  rw[z6]at this
  exact this
theorem QD (j:Nat):∀(xs aC:List ag),ag.df j (xs++aC)=(ag.df j xs||ag.df j aC)
 |[],aC=>by simp[ag.df]
 |x::xs,aC=>by simp only[List.cons_append,ag.df,QD j xs aC,Bool.or_assoc]
theorem XO {ty:TypeId} {op:Op} {f:Nat} {bm:List bk} (ae:cS P ty op=some (.call f bm)):
 ∃args c1,op= .call { callee:= .value (.func f),args,argTypes:=c1 }∧iX P c1.toList args.toList=some bm:=by
 cases op with
 |call c=>
  cases c with
  |mk callee args c1=>
   simp only[cS,l0]at ae
   split at ae
   ·exfalso
    simp only[pD]at ae
    repeat' (split at ae)
    all_goals first
     |(cases ae;done)
     |(obtain⟨v,_,h⟩:=map_some ae;cases h;done)
   ·rename_i _ P6
    rcases x6 ae with ⟨v,h1,h2⟩|⟨x,_,⟨_,h⟩|⟨_,h⟩⟩
    ·simp only[bx.call.injEq]at h2
     obtain⟨rfl,rfl⟩:=h2
     exact⟨args,c1,rfl,h1⟩
    ·cases h
    ·cases h
   ·split at ae
    ·cases ae
    ·cases ae
   ·split at ae
    ·cases ae
    ·cases ae
 |makeFunc f x y=>
  exfalso
  cases f with
  |func f=>
   simp only[cS,pX]at ae
   split at ae
   ·cases ae
   ·cases ae
  |_=>cases ae
 |_=>
  exfalso
  first
   |(cases ae;done)
   |(obtain⟨v,_,h⟩:=map_some ae;cases h;done)
   |(simp only[cS,pF,pU,pV,qX,p4,pW,pJ,pK,pL,pM,pN,pO,q2,p5,pP,pY,k5,p6]at ae
     repeat' (split at ae)
     all_goals first
      |(cases ae;done)
      |(obtain⟨v,_,h⟩:=map_some ae;cases h;done))
theorem QE {ty:TypeId} {op:Op} {x:bk} {bm:List bk} (ae:cS P ty op=some (.hJ x bm)):
 ∃y args c1,op= .call { callee:= .value y,args,argTypes:=c1 }∧dA P y=some x∧iX P c1.toList args.toList=some bm:=by
 cases op with
 |call c=>
  cases c with
  |mk callee args c1=>
   simp only[cS,l0]at ae
   split at ae
   ·exfalso
    simp only[pD]at ae
    repeat' (split at ae)
    all_goals first
     |(cases ae;done)
     |(obtain⟨v,_,h⟩:=map_some ae;cases h;done)
   ·rcases x6 ae with ⟨bm,_,h⟩|⟨x,_,⟨_,h⟩|⟨_,h⟩⟩<;>cases h
   ·split at ae
    ·rename_i h1 h2
     simp only[Option.some.injEq,bx.hJ.injEq]at ae
     obtain⟨rfl,rfl⟩:=ae
     exact⟨_,args,c1,rfl,h1,h2⟩
    ·cases ae
   ·split at ae
    ·cases ae
    ·cases ae
 |makeFunc f x y=>
  exfalso
  cases f with
  |func f=>
   simp only[cS,pX]at ae
   split at ae
   ·cases ae
   ·cases ae
  |_=>cases ae
 |_=>
  exfalso
  first
   |(cases ae;done)
   |(obtain⟨v,_,h⟩:=map_some ae;cases h;done)
   |(simp only[cS,pF,pU,pV,qX,p4,pW,pJ,pK,pL,pM,pN,pO,q2,p5,pP,pY,k5,p6]at ae
     repeat' (split at ae)
     all_goals first
      |(cases ae;done)
      |(obtain⟨v,_,h⟩:=map_some ae;cases h;done))
theorem bd.newAt (h:bd N aR aL R σ a w rd β) {cf:World} (sO:Below w.heap.size w cf) {σ':St} {i:Nat} {b:cm} (he:b.ext=false) {r:cY} (ar:w.heap.size≤r.bL) (Kv:r.whole=true)
 {f:ag→ag} (hf:∀x v,aT rd β x v→aT rd (fun j=>if j=i then some r else β j) (f x) v)
 (Dm:σ'.af=fun t=>f (σ.af t)) (hx:∀j,σ'.aA j=if j=i then some b else (σ.aA j).map (cm.gK f))
 (ay:e7 cf rd (fun j=>if j=i then some r else β j) r b.c) (aQ:dZ cf r b.c):
 bd N aR aL R σ' a cf rd (fun j=>if j=i then some r else β j)where
 size:=h.size
 defers:=h.defers
 cO:=h.cO.below sO
 dH:=QZ sO (fun _ _ e _=>e) (fun j r' aF=>by split at aF;simp only[Option.some.injEq]at aF;subst aF;exact .inr ar;exact .inl aF) h.dH
 dR:=h.dR
 dg:=Rm sO h.dg
 aL:=h.aL
 eR:=fun j r' fm aF aj bp aP a6=>by
  split at aF
  ·simp only[Option.some.injEq]at aF
   subst aF
   cases e:rd aP with
   |none=>rfl
   |some v=>have:=AP (h.dg aP v e);have:=a6.1;omega
  ·rename_i ei
   rw[hx,if_neg ei]at aj
   obtain⟨cK,h0,_⟩:=h.box j r' aF
   rw[h0]at aj
   simp only[Option.map_some,Option.some.injEq]at aj
   subst aj
   exact h.eR j r' cK aF h0 bp aP a6
 eX:=fun t=>by rw[Dm];exact hf _ _ (h.eX t)
 box:=fun j r' aF=>by
  split at aF
  ·rename_i ei
   simp only[Option.some.injEq]at aF
   subst aF
   refine⟨b,by rw[hx,if_pos ei],ay,aQ,fun _=>⟨Nat.le_trans h.cO.size ar,Kv⟩,fun e=>by rw[he]at e;cases e⟩
  ·rename_i ei
   obtain⟨cK,h0,dO,eF,h1,h2⟩:=h.box j r' aF
   have bl:=eF.lt
   have Dn:cf.heap[r'.bL]? =w.heap[r'.bL]? :=sO.block _ bl
   exact⟨cK.gK f,by rw[hx,if_neg ei,h0];rfl,dO.gK hf (fun k _ _=>th Dn) (fun _=>Dn),(eF.x8 Dn).congr (Ec f _),h1,h2⟩
 eM:=fun j fm aj aF=>by
  split at aF
  ·cases aF
  ·rename_i ei
   rw[hx,if_neg ei]at aj
   cases h0:σ.aA j with
   |none=>rw[h0]at aj;cases aj
   |some cK=>
    rw[h0]at aj
    simp only[Option.map_some,Option.some.injEq]at aj
    subst aj
    obtain⟨bh,bB⟩:=h.eM j cK h0 aF
    exact⟨bh,by rw[←bB];exact Ed f cK.c⟩
 eE:=fun j k h9 lK sG aF ad aP a6 cH=>by
  split at aF<;>split at ad
  ·omega
  ·simp only[Option.some.injEq]at aF
   subst aF
   obtain⟨_,_,_,eF,_⟩:=h.box k lK ad
   have:=eF.lt
   have:=a6.1
   have:=cH.1
   omega
  ·simp only[Option.some.injEq]at ad
   subst ad
   obtain⟨_,_,_,eF,_⟩:=h.box j h9 aF
   have:=eF.lt
   have:=a6.1
   have:=cH.1
   omega
  ·exact h.eE j k h9 lK sG aF ad aP a6 cH
theorem XP {d:D} {c:BC} {n:Nat} (h:jr d=some (c,n)):c.isMap=false:=by
 cases d<;>simp only[jr,Option.some.injEq,Prod.mk.injEq,reduceCtorEq]at h
 ·obtain⟨rfl,_⟩:=h;rfl
 ·obtain⟨rfl,_⟩:=h;rfl
theorem akK {f:Nat} {C:br} (c0:l8 P aL f C) (h:bd N aR aL R σ a w rd β) {o:Oper} (aD:hK N o.dst=true) {vs:List ag} {us:Array Value} (hu:bY rd β vs us.toList)
 (ar:(execOp a.eval o).run P w= .ok (.enter f us) w) {K:St→Prop} (ad:va C o.dst σ K vs):eW P N aR aL R o a w K:=by
 intro next Q aJ
 unfold va at ad
 split at ad
 ·rename_i ds hq
  obtain⟨aQ,ad⟩:=ad
  by_cases S7:C.own=true
  ·rw[if_pos S7]at ad
   split at ad
   ·rename_i i c n p8 h6
    have lu:=toDs_rep h (S:=jn β vs) vs _ ds hq hu fun i r aP hi ec fC=>⟨i,r,hi,ec,fC⟩
    refine Ep c0 ar (m:=plus w (jn β vs) rd) (h.dR.trans (oM _ _ _)) (yd h.dg) aQ lu ?_
    intro v cf aw aB
    obtain⟨c',kZ,A,cap,O4,rfl,sI,hA⟩:=aB.2 S7
    rw[h6]at O4
    simp only[Option.some.injEq,Prod.mk.injEq]at O4
    obtain⟨rfl,rfl⟩:=O4
    rcases hA with ⟨h0,h1⟩|⟨r,hw,ec,sJ,gO,hA,tM⟩
    ·have JC:c.isNil=true:=by
      cases gV:C.res ds with
      |ints k xs=>
       rw[gV]at h6
       simp only[jr,Option.some.injEq,Prod.mk.injEq]at h6
       obtain⟨rfl,rfl⟩:=h6
       rw[List.eq_nil_of_length_eq_zero h0];rfl
      |flts xs=>
       rw[gV]at h6
       simp only[jr,Option.some.injEq,Prod.mk.injEq]at h6
       obtain⟨rfl,rfl⟩:=h6
       rw[List.eq_nil_of_length_eq_zero h0];rfl
      |_=>rw[gV]at h6;simp[jr]at h6
     rw[←p8]at ad
     exact aJ _ _ _ _ _ ad ((ZU (h.below aw) (tj σ i _) JC).put aD (by simp only[aT];exact⟨A,cap,rfl,sI,.inl ⟨h0,h1⟩⟩))
    ·rw[←p8]at ad
     have BT:=tj (rd:=rd) (β:=β) σ i ⟨false,false,c⟩
     refine aJ _ _ _ _ _ ad (bd.put (β:=fN β i (some r)) (bd.newAt h aw (b:=⟨false,false,c⟩) rfl ec hw (BT.rep _) BT.af BT.aA ?_ (.of sJ (XP h6))) aD ?_)
     ·cases gV:C.res ds with
      |ints k xs=>
       rw[gV]at h6
       simp only[jr,Option.some.injEq,Prod.mk.injEq]at h6
       obtain⟨rfl,rfl⟩:=h6
       exact gO
      |flts xs=>
       rw[gV]at h6
       simp only[jr,Option.some.injEq,Prod.mk.injEq]at h6
       obtain⟨rfl,rfl⟩:=h6
       exact gO
      |_=>rw[gV]at h6;simp[jr]at h6
     ·simp only[aT]
      refine⟨A,cap,rfl,sI,.inr ⟨r,if_pos rfl,by rw[hA,Nat.zero_mul,Nat.add_zero],fun _=>by omega⟩⟩
   ·exact ad.elim
  ·rw[if_neg S7]at ad
   split at ad
   ·rename_i OX
    simp only[Bool.or_eq_true]at OX
    rcases OX with UC|jv
    ·have lu:=toDs_rep h (S:=jn β vs) vs _ ds hq hu fun i r aP hi ec fC=>⟨i,r,hi,ec,fC⟩
     refine Ep c0 ar (m:=plus w (jn β vs) rd) (h.dR.trans (oM _ _ _)) (yd h.dg) aQ lu ?_
     intro v cf aw aB
     exact aJ _ _ _ _ _ ad ((h.below aw).put aD (YV UC aB.rep))
    ·have lu:=AR h jv hq hu
     refine Ep c0 ar h.dR h.dg aQ lu ?_
     intro v cf aw aB
     exact aJ _ _ _ _ _ ad ((h.fresh aw).put aD (pG aB.rep))
   ·obtain⟨aH,ad⟩:=ad
    have lu:=toDs_rep h (S:=jn β vs) vs _ ds hq hu fun i r aP hi ec fC=>⟨i,r,hi,ec,fC⟩
    refine Ep c0 ar (m:=plus w (jn β vs) rd) (h.dR.trans (oM _ _ _)) (yd h.dg) aQ lu ?_
    intro v cf aw aB
    exact aJ _ _ _ _ _ ad (((h.vG aH).fresh aw).put aD (pG aB.rep))
 ·exact ad.elim
theorem amN {w:World} (d:Nat) {t e:TypeId} (A:Option Addr) (n c kZ c':Nat) (h:P.underlying t=some (.slice e)):(Op.equalIn (d+1) t (.slice A n c) (.slice none kZ c')).run P w= .ok A.isNone w:=by
 cases A<;>simp[Op.equalIn,run_underlying h]
theorem aol {w:World} {t e:TypeId} (A:Option Addr) (n c kZ c':Nat) (h:P.underlying t=some (.slice e)):(binOp .eql t (.slice A n c) (.slice none kZ c')).run P w= .ok (.bool A.isNone) w:=by
 simp only[binOp]
 simp[Op.equal,Op.maxDepth,amN (w:=w) 9999 A n c kZ c' h]
theorem amO {ty:TypeId} {op:Op} {x:bk} (ae:cS P ty op=some (.Bc x)):
 ∃t p s4 e,op= .binOp .eql t p (.const (.slice none 0 0)) s4∧dA P p=some x∧P.underlying t=some (.slice e):=by
 cases op with
 |binOp b t p q s4=>
  simp only[cS,p4]at ae
  split at ae
  ·repeat' split at ae
   all_goals cases ae
  split at ae
  ·repeat' split at ae
   all_goals first
    |(cases ae;done)
    |(obtain⟨v,_,h⟩:=map_some ae;cases h;done)
  ·rename_i cM h1 h2
   split at ae
   ·rename_i e he
    simp only[Option.some.injEq,bx.Bc.injEq]at ae
    subst ae
    exact⟨t,p,s4,_,rfl,h1,by assumption⟩
   ·cases ae
  ·cases ae
 |call c=>
  exfalso
  cases c with
  |mk callee args c1=>
   simp only[cS,l0]at ae
   split at ae
   ·simp only[pD]at ae
    repeat' (split at ae)
    all_goals first
     |(cases ae;done)
     |(obtain⟨v,_,h⟩:=map_some ae;cases h;done)
   ·rcases x6 ae with ⟨bm,_,h⟩|⟨x,_,⟨_,h⟩|⟨_,h⟩⟩<;>cases h
   ·split at ae
    ·cases ae
    ·cases ae
   ·split at ae
    ·cases ae
    ·cases ae
 |makeFunc f x y=>
  exfalso
  cases f with
  |func f=>
   simp only[cS,pX]at ae
   split at ae
   ·cases ae
   ·cases ae
  |_=>cases ae
 |_=>
  exfalso
  first
   |(cases ae;done)
   |(obtain⟨v,_,h⟩:=map_some ae;cases h;done)
   |(simp only[cS,pF,pU,pV,qX,pW,pJ,pK,pL,pM,pN,pO,q2,p5,pP,pY,k5,p6]at ae
     repeat' (split at ae)
     all_goals first
      |(cases ae;done)
      |(obtain⟨v,_,h⟩:=map_some ae;cases h;done))
theorem alO {ty:TypeId} {op:Op} {ks:List dM} (ae:cS P ty op=some (.yk ks)):∃e,op= .alloc e∧SH P e=some ks:=by
 cases op with
 |alloc e=>
  simp only[cS]at ae
  split at ae
  ·rename_i k he
   simp only[Option.some.injEq,bx.yk.injEq]at ae;subst ae
   exact⟨e,rfl,he⟩
  ·obtain⟨v,_,h⟩:=map_some ae;cases h
 |call c=>
  exfalso
  cases c with
  |mk callee args c1=>
   simp only[cS,l0]at ae
   split at ae
   ·simp only[pD]at ae
    repeat' (split at ae)
    all_goals first
     |(cases ae;done)
     |(obtain⟨v,_,h⟩:=map_some ae;cases h;done)
   ·rcases x6 ae with ⟨bm,_,h⟩|⟨x,_,⟨_,h⟩|⟨_,h⟩⟩<;>cases h
   ·split at ae
    ·cases ae
    ·cases ae
   ·split at ae
    ·cases ae
    ·cases ae
 |makeFunc f x y=>
  exfalso
  cases f with
  |func f=>
   simp only[cS,pX]at ae
   split at ae
   ·cases ae
   ·cases ae
  |_=>cases ae
 |_=>
  exfalso
  first
   |(cases ae;done)
   |(obtain⟨v,_,h⟩:=map_some ae;cases h;done)
   |(simp only[cS,p4,pF,pU,pV,qX,pW,pJ,pK,pL,pM,pN,pO,q2,p5,pP,pY,k5,p6]at ae
     repeat' (split at ae)
     all_goals first
      |(cases ae;done)
      |(obtain⟨v,_,h⟩:=map_some ae;cases h;done))
theorem Mn (c6:ah P aL Γ) (h:bd N aR aL R σ a w rd β) {f:Nat} {o:Oper} (aD:hK N o.dst=true) {vs:List ag} {us:Array Value} (hu:bY rd β vs us.toList)
 (ar:A5 P f→(execOp a.eval o).run P w= .ok (.enter f us) w) {K:St→Prop} (ad:pS Γ o.dst σ K f vs):eW P N aR aL R o a w K:=by
 unfold pS at ad
 split at ad
 ·rename_i C gV
  have c0:=c6.2 f C gV
  exact QN c0 h aD hu (ar c0.1) (Ee σ _).1 (fun i hi=>(Ee σ _).2 i ((Ee σ _).2 i (H4 (CA vs i hi)))) ad
 ·rename_i C _ gV
  have c0:=c6.1 f C gV
  exact akK c0 h aD hu (ar c0.1) ad
 ·exact ad.elim
theorem Ro:∀{ds:List D} {us:List Value},bP rd ds us→bY rd β (ds.map c3) us
 |[],us,h=>by simpa only[bP,bY,List.map_nil]using h
 |d::ds,us,h=>by
  simp only[bP,bY,List.map_cons]at*
  obtain⟨v,vs,e,h1,h2⟩:=h
  exact⟨v,vs,e,pG h1,Ro h2⟩
theorem Rp {g:Nat→Nat} :∀(v:ag),v.tidy (fun _=>false)=true→v.eh g=v:=by
 intro v
 refine ag.rec (motive_1:=fun v=>v.tidy (fun _=>false)=true→v.eh g=v) (motive_2:=fun vs=>ag.ij (fun _=>false) vs=true→ag.g1 g vs=vs) ?_ ?_ ?_ ?_ ?_ ?_ ?_ ?_ ?_ ?_ ?_ ?_ v
 ·intro x _;rfl
 ·intro cs cJ h;simp only[ag.tidy]at h;simp only[ag.eh,cJ h]
 ·intro i o h;simp[ag.tidy]at h
 ·intro i o n h;simp[ag.tidy]at h
 ·intro i o n h;simp[ag.tidy]at h
 ·intro f a b Dw Dx h;simp only[ag.tidy,Bool.and_eq_true]at h;simp only[ag.eh,Dw h.1,Dx h.2]
 ·intro i h;simp[ag.tidy]at h
 ·intro l h;simp[ag.tidy]at h
 ·intro h;simp[ag.tidy]at h
 ·intro h;simp[ag.tidy]at h
 ·intro _;rfl
 ·intro x xs Dw Dx h;simp only[ag.ij,Bool.and_eq_true]at h;simp only[ag.g1,Dw h.1,Dx h.2]
theorem Ym {g:Nat→Nat} :∀(vs:List ag),ag.ij (fun _=>false) vs=true→ag.g1 g vs=vs
 |[],_=>rfl
 |v::vs,h=>by
  simp only[ag.ij,Bool.and_eq_true]at h
  simp only[ag.g1,Rp v h.1,Ym vs h.2]
theorem BC.Rp {g:Nat→Nat} {c:BC} (h:c.tidy (fun _=>false)=true):c.eh g=c:=by
 cases c with
 |cells cs=>simp only[BC.eh,Ym cs h]
 |_=>rfl
theorem MR {p:Nat→Bool} :∀(v:ag),v.tidy (fun _=>false)=true→v.tidy p=true:=by
 intro v
 refine ag.rec (motive_1:=fun v=>v.tidy (fun _=>false)=true→v.tidy p=true) (motive_2:=fun vs=>ag.ij (fun _=>false) vs=true→ag.ij p vs=true) ?_ ?_ ?_ ?_ ?_ ?_ ?_ ?_ ?_ ?_ ?_ ?_ v
 ·intro x _;rfl
 ·intro cs cJ h;simp only[ag.tidy]at h⊢;exact cJ h
 ·intro i o h;simp[ag.tidy]at h
 ·intro i o n h;simp[ag.tidy]at h
 ·intro i o n h;simp[ag.tidy]at h
 ·intro f a b Dw Dx h;simp only[ag.tidy,Bool.and_eq_true]at h⊢;exact⟨Dw h.1,Dx h.2⟩
 ·intro i h;simp[ag.tidy]at h
 ·intro l h;simp[ag.tidy]at h
 ·intro h;simp[ag.tidy]at h
 ·intro h;simp[ag.tidy]at h
 ·intro _;rfl
 ·intro x xs Dw Dx h;simp only[ag.ij,Bool.and_eq_true]at h⊢;exact⟨Dw h.1,Dx h.2⟩
theorem Yn {p:Nat→Bool} :∀(vs:List ag),ag.ij (fun _=>false) vs=true→ag.ij p vs=true
 |[],_=>rfl
 |v::vs,h=>by
  simp only[ag.ij,Bool.and_eq_true]at h⊢
  exact⟨MR v h.1,Yn vs h.2⟩
theorem BC.MR {p:Nat→Bool} {c:BC} (h:c.tidy (fun _=>false)=true):c.tidy p=true:=by
 cases c with
 |cells cs=>exact Yn cs h
 |_=>rfl
theorem Xc {σ:St} {p:Nat→Bool} :∀{is:List Nat} {cs:List BC},contents σ (fun _=>false) is=some cs→contents σ p is=some cs∧iD σ is cs=σ
 |[],cs,h=>by
  simp only[contents,Option.some.injEq]at h
  subst h
  exact⟨rfl,rfl⟩
 |i::r,cs,h=>by
  simp only[contents]at h
  split at h
  ·rename_i e c cs' aw ar
   split at h
   ·rename_i ay
    simp only[Option.some.injEq]at h
    subst h
    obtain⟨h1,h2⟩:=Xc (p:=p) ar
    refine⟨by simp only[contents,aw,h1,BC.MR ay,if_true],?_⟩
    have aE:σ.ea i ⟨false,e,c⟩=σ:=by
     unfold St.ea lb
     cases σ with
     |mk af aA=>
      simp only at aw⊢
      congr 1
      funext t
      by_cases ae:t=i
      ·subst ae;rw[if_pos rfl,aw]
      ·rw[if_neg ae]
    simp only[iD,aw,aE,h2]
   ·cases h
  ·cases h
theorem akL {C:gu} {σ:St} {dst:Option Nat} {K:St→Prop} {vs:List ag} (h:yA C σ (fun v=>K (σ.put dst v)) vs):yn C dst σ K vs (distinct (ag.jb vs)):=by
 unfold yA at h
 split at h
 ·rename_i cs fR
  obtain⟨h1,h2,aq⟩:=h
  obtain⟨bR,bS,_⟩:=L6 fR
  obtain⟨bh,bB⟩:=Xc (p:=fun i=>(distinct (ag.jb vs)).contains i) fR
  have auH:∀g:Nat→Nat,cs.map (BC.eh g)=cs:=fun g=>by
   conv=>rhs;rw[←List.map_id cs]
   exact List.map_congr_left fun c ay=>BC.Rp (bS c ay)
  unfold yn
  rw[bh]
  simp only[auH,h2]
  refine⟨h1,bR,?_,?_⟩
  ·rw[List.all_eq_true];exact fun c ay=>BC.MR (bS c ay)
  ·rw[bB];exact aq
 ·exact h.elim
theorem Yo (c6:ah P aL Γ) (h:bd N aR aL R σ a w rd β) {o:Oper} {l:bx} (ae:cS P o.type o.op=some l) (aD:hK N o.dst=true) {K:St→Prop}
 (ad:bf Γ σ (fun v=>K (σ.put o.dst v)) l):eW P N aR aL R o a w K:=by
 cases ay:l.lX with
 |false=>exact(alH h ae ay ad).goes aD
 |true=>
  by_cases lx:∀x bm,l= .hJ x bm→∀f u v,σ.aU x≠ .dk f u v
  ·exact fun next Q aJ=>akH c6.1 h ae ay ad lx fun av u w' rd' h1 h2 aq=>aJ _ _ _ _ _ h1 (h2.put aD aq)
  ·have:∃x bm f u v,l= .hJ x bm∧σ.aU x= .dk f u v:=by
    refine Classical.byContradiction fun eB=>lx fun x bm aH f u v e=>eB ⟨x,bm,f,u,v,aH,e⟩
   obtain⟨x,S8,f,fst,cap,rfl,e⟩:=this
   obtain⟨y,bm,c1,bw,hy,has⟩:=QE ae
   have cQ:=ez h hy
   have GO:=qP h has
   simp only[bf,e]at ad
   rw[e]at cQ
   simp only[aT]at cQ
   obtain⟨gd,vc,aB,bA,bX⟩:=cQ
   split at ad
   ·rename_i C gV
    have c0:=c6.2 f C gV
    refine QN c0 h aD (us:=gd++bm.map a.eval++vc) ?_ (Mm bw aB c0.1) (Qo _) (fun i hi=>H4 (CA _ i hi)) (akL ad)
    simp only[Array.toList_append,Array.toList_map]
    exact zt (zt bA GO) bX
   ·exact ad.elim
theorem akM {ty:TypeId} {op:Op} {kQ:List (Nat×Nat×Option (Nat×Nat×Bool))} {x:bk} {bm:List bk} (ae:cS P ty op=some (.sq kQ x bm)):
 ∃r name args c1,op= .call { callee:= .invoke r name,args,argTypes:=c1 }∧kQ=rowsOf P name∧dA P r=some x∧iX P c1.toList args.toList=some bm:=by
 cases op with
 |call c=>
  cases c with
  |mk callee args c1=>
   simp only[cS,l0]at ae
   split at ae
   ·exfalso
    simp only[pD]at ae
    repeat' (split at ae)
    all_goals first
     |(cases ae;done)
     |(obtain⟨v,_,h⟩:=map_some ae;cases h;done)
   ·rcases x6 ae with ⟨bm,_,h⟩|⟨x,_,⟨_,h⟩|⟨_,h⟩⟩<;>cases h
   ·split at ae
    ·cases ae
    ·cases ae
   ·split at ae
    ·rename_i h1 h2
     simp only[Option.some.injEq,bx.sq.injEq]at ae
     obtain⟨rfl,rfl,rfl⟩:=ae
     exact⟨_,_,args,c1,rfl,rfl,h1,h2⟩
    ·cases ae
 |makeFunc f x y=>
  exfalso
  cases f with
  |func f=>
   simp only[cS,pX]at ae
   split at ae
   ·cases ae
   ·cases ae
  |_=>cases ae
 |_=>
  exfalso
  first
   |(cases ae;done)
   |(obtain⟨v,_,h⟩:=map_some ae;cases h;done)
   |(simp only[cS,pF,pU,pV,qX,p4,pW,pJ,pK,pL,pM,pN,pO,q2,p5,pP,pY,k5,p6]at ae
     repeat' (split at ae)
     all_goals first
      |(cases ae;done)
      |(obtain⟨v,_,h⟩:=map_some ae;cases h;done))
theorem akh {ty:TypeId} {op:Op} {x:bk} (ae:cS P ty op=some (.sj x)):
 ∃f args c1,op= .call { callee:= .value (.func f),args,argTypes:=c1 }∧tI P f=some "math.Float64bits"∧iX P c1.toList args.toList=some [x]:=by
 cases op with
 |call c=>
  cases c with
  |mk callee args c1=>
   simp only[cS,l0]at ae
   split at ae
   ·exfalso
    simp only[pD]at ae
    repeat' (split at ae)
    all_goals first
     |(cases ae;done)
     |(obtain⟨v,_,h⟩:=map_some ae;cases h;done)
   ·rcases x6 ae with ⟨bm,_,h⟩|⟨y,h1,⟨h2,h⟩|⟨_,h⟩⟩
    ·cases h
    ·simp only[bx.sj.injEq]at h
     subst h
     exact⟨_,args,c1,rfl,h2,h1⟩
    ·cases h
   ·split at ae
    ·cases ae
    ·cases ae
   ·split at ae
    ·cases ae
    ·cases ae
 |makeFunc f x y=>
  exfalso
  cases f with
  |func f=>
   simp only[cS,pX]at ae
   split at ae
   ·cases ae
   ·cases ae
  |_=>cases ae
 |_=>
  exfalso
  first
   |(cases ae;done)
   |(obtain⟨v,_,h⟩:=map_some ae;cases h;done)
   |(simp only[cS,pF,pU,pV,qX,p4,pW,pJ,pK,pL,pM,pN,pO,q2,p5,pP,pY,k5,p6]at ae
     repeat' (split at ae)
     all_goals first
      |(cases ae;done)
      |(obtain⟨v,_,h⟩:=map_some ae;cases h;done))
theorem aki {ty:TypeId} {op:Op} {n:Nat} {m k x:bk} (ae:cS P ty op=some (.yt n m k x)):
 ∃t eg cX cM e,(op= .mapUpdate t eg cX cM∨op= .insert t eg cX cM)∧Br P t=some (n,e)∧dA P eg=some m∧dA P cX=some k∧k4 P e cM=some x:=by
 have main:∀{t:TypeId} {eg cX cM:Operand},k5 P t eg cX cM=some (.yt n m k x)→∃e,Br P t=some (n,e)∧dA P eg=some m∧dA P cX=some k∧k4 P e cM=some x:=by
  intro t eg cX cM ae
  unfold k5 at ae
  split at ae
  ·rename_i e e0 bh h1 h2 aq
   obtain⟨v,aB,h⟩:=map_some ae
   simp only[bx.yt.injEq]at h
   obtain⟨rfl,rfl,rfl,rfl⟩:=h
   exact⟨e.2,h1,h2,aq,aB⟩
  ·cases ae
 cases op with
 |mapUpdate t eg cX cM=>
  obtain⟨e,h⟩:=main ae
  exact⟨t,eg,cX,cM,e,.inl rfl,h⟩
 |insert t eg cX cM=>
  obtain⟨e,h⟩:=main ae
  exact⟨t,eg,cX,cM,e,.inr rfl,h⟩
 |call c=>
  exfalso
  cases c with
  |mk callee args c1=>
   simp only[cS,l0]at ae
   split at ae
   ·simp only[pD]at ae
    repeat' (split at ae)
    all_goals first
     |(cases ae;done)
     |(obtain⟨v,_,h⟩:=map_some ae;cases h;done)
   ·rcases x6 ae with ⟨bm,_,h⟩|⟨x,_,⟨_,h⟩|⟨_,h⟩⟩<;>cases h
   ·split at ae
    ·cases ae
    ·cases ae
   ·split at ae
    ·cases ae
    ·cases ae
 |makeFunc f x y=>
  exfalso
  cases f with
  |func f=>
   simp only[cS,pX]at ae
   split at ae
   ·cases ae
   ·cases ae
  |_=>cases ae
 |_=>
  exfalso
  first
   |(cases ae;done)
   |(obtain⟨v,_,h⟩:=map_some ae;cases h;done)
   |(simp only[cS,pF,pU,pV,qX,p4,pW,pJ,pK,pL,pM,pN,pO,q2,p5,pP,pY,k5,p6]at ae
     repeat' (split at ae)
     all_goals first
      |(cases ae;done)
      |(obtain⟨v,_,h⟩:=map_some ae;cases h;done))
theorem bd.apY (h:bd N aR aL R σ a w rd β) {i:Nat} {r:cY} (hi:β i=some r) {e:Bool} {n:Nat} {xs aC:List (List Int×D)} (aj:σ.aA i=some ⟨false,e,.map n xs⟩)
 {es es':Array MapEntry} {k cX:Nat} (hw:w.heap[r.bL]? =some (.map es k)) (hy:iY rd n aC es'.toList):
 bd N aR aL R (σ.ea i ⟨false,e,.map n aC⟩) a { w with heap:=w.heap.setIfInBounds r.bL (.map es' cX) } rd β:=by
 have bl:r.bL<w.heap.size:=(Array.getElem?_eq_some_iff.1 hw).1
 have tL:∀b,b≠r.bL→(w.heap.setIfInBounds r.bL (.map es' cX))[b]? =w.heap[b]? :=fun b aw=>Array.getElem?_setIfInBounds_ne (Ne.symm aw)
 have tD:(w.heap.setIfInBounds r.bL (.map es' cX))[r.bL]? =some (.map es' cX):=by
  rw[Array.getElem?_setIfInBounds_self_of_lt bl]
 obtain⟨cK,h0,dO,eF,gA,eG⟩:=h.box i r hi
 rw[aj]at h0
 simp only[Option.some.injEq]at h0
 subst h0
 have aau:∀aP:Addr,aP.block=r.bL→w.cell? aP=none∧World.cell? { w with heap:=w.heap.setIfInBounds r.bL (.map es' cX) } aP=none:=fun aP aw=>by
  unfold World.cell?
  dsimp only
  rw[aw,tD,hw]
  exact⟨rfl,rfl⟩
 have fr:∀aP:Addr,World.cell? { w with heap:=w.heap.setIfInBounds r.bL (.map es' cX) } aP=w.cell? aP:=fun aP=>by
  by_cases aw:aP.block=r.bL
  ·rw[(aau aP aw).1,(aau aP aw).2]
  ·exact th (tL _ aw)
 have I7:∀{j:Nat} {r':cY} {b:cm},j≠i→β j=some r'→σ.aA j=some b→r'.bL≠r.bL:=by
  intro j r' b ei aF aw he
  obtain⟨bM,gT,_,p1,_⟩:=h.box j r' aF
  unfold dZ at p1
  split at p1
  ·obtain⟨_,jF,da⟩:=p1
   unfold dZ at eF
   rw[if_pos (show (BC.map n xs).isMap=true from rfl)]at eF
   obtain⟨_,dP,fw⟩:=eF
   exact h.eE i j r r' (Ne.symm ei) hi aF (cellAt r.bL 0) ⟨rfl,.inr (by show r.off≤0∧0<r.off+r.len;omega)⟩ ⟨he.symm,.inr (by show r'.off≤0∧0<r'.off+r'.len;omega)⟩
  ·obtain⟨arr,t,cx,p1,_⟩:=p1
   rw[he,hw]at p1;cases p1
 exact {
  size:=h.size
  defers:=h.defers
  cO:=by
   refine⟨h.cO.os,h.cO.tape,h.cO.output,by simpa using h.cO.size,fun b aw=> ?_⟩
   by_cases he:b=r.bL
   ·subst he
    refine(h.cO.block _ aw).trans ?_
    rw[tD,hw]
    cases e with
    |false=>have:=(gA rfl).1;omega
    |true=>exact .inr (.inr ⟨es,k,es',cX,rfl,rfl,i,r,(eG rfl).1,rfl⟩)
   ·rw[tL b he];exact h.cO.block b aw
  dH:=fun b o ad=>by
   obtain⟨h1,h2⟩:=h.dH b o ad
   refine⟨h1,?_⟩
   by_cases aw:b=r.bL
   ·rw[aw,hw]at h2
    rcases h1 with h1|⟨h1,_⟩
    ·exact absurd (Option.some.inj h2).symm (h1.2 _ _)
    ·exact absurd aw.symm (h1 i r hi)
   ·rw[tL b aw];exact h2
  dg:=fun aP v aB=>by rw[fr aP];exact h.dg aP v aB
  dR:=h.dR
  aL:=h.aL
  eR:=fun j r' fm aF cH bp aP a6=>by
   by_cases ei:j=i
   ·subst ei
    rw[hi]at aF
    simp only[Option.some.injEq]at aF
    subst aF
    exact h.eR j r _ hi aj rfl aP a6
   ·refine h.eR j r' fm aF ?_ bp aP a6
    simpa [St.ea,lb,ei]using cH
  eX:=h.eX
  box:=fun j r' aF=>by
   by_cases ei:j=i
   ·subst ei
    rw[hi]at aF
    simp only[Option.some.injEq]at aF
    subst aF
    refine⟨⟨false,e,.map n aC⟩,by simp[St.ea,lb],⟨es',cX,tD,hy⟩,?_,gA,eG⟩
    unfold dZ at eF⊢
    rw[if_pos (show (BC.map n xs).isMap=true from rfl)]at eF
    rw[if_pos (show (BC.map n aC).isMap=true from rfl)]
    exact⟨⟨es',cX,tD⟩,eF.2⟩
   ·obtain⟨bM,gT,bR,p1,cI,dS⟩:=h.box j r' aF
    have aw:=tL _ (I7 ei aF gT)
    exact⟨bM,by simpa [St.ea,lb,ei]using gT,bR.mono (b3.refl _) (fun _ _ _=>fr _) (fun _ _ _ _ _ H=>H) (fun _=>aw),p1.x8 aw,cI,dS⟩
  eM:=fun j fm cH aF=>by
   by_cases ei:j=i
   ·subst ei;rw[hi]at aF;cases aF
   ·exact h.eM j fm (by simpa [St.ea,lb,ei]using cH) aF
  eE:=h.eE }
theorem ajU {n:Nat} {k:TypeId} (ad:S3 P n k) {l:List Int} (aH:l.length=n):Instr.sameBits 10000 (hd l) (hd l)=true:=by
 rcases ad with ⟨rfl,_⟩|⟨rfl,_⟩
 ·obtain⟨x,rfl⟩:=M9 aH
  simp[hd,Instr.sameBits]
 ·obtain⟨x,y,rfl⟩:=Na aH
  simp[hd,Instr.sameBits]
theorem akN (h:bd N aR aL R σ a w rd β) {o:Oper} {n:Nat} {m k x:bk} (ae:cS P o.type o.op=some (.yt n m k x)) (aD:hK N o.dst=true) {i:Nat} {e:Bool} {key:List Int} {es:List (List Int×D)} {d:D} {K:St→Prop}
 (hm:σ.aU m= .mp i) (ad:(σ.aU k).key=some key) (aw:σ.aA i=some ⟨false,e,.map n es⟩) (aj:toD σ (σ.aU x)=some d) (BP:key.length=n) (aQ:(σ.aU x).pure=true)
 (b9:K ((σ.ea i ⟨false,e,.map n (qW es key d)⟩).put o.dst .dB)):eW P N aR aL R o a w K:=by
 obtain⟨t,eg,cX,cM,Aq,bw,auI,h1,h2,aq⟩:=aki ae
 obtain⟨LI,hu,gB⟩:=Q3 auI
 have yW:=ez h h1
 have Uz:=ez h h2
 have cQ:=x4 h aq
 rw[hm]at yW
 simp only[aT]at yW
 obtain⟨r,hi,auJ⟩:=yW
 obtain⟨OW,_⟩:=ZT ad Uz
 have aH:=AR h (vs:=[σ.aU x]) (us:=[a.eval cM]) (ds:=[d]) (by simp only[ag.g8,aQ,Bool.and_true]) (by simp only[toDs,aj]) (by simp only[bY];exact⟨_,_,rfl,cQ,rfl⟩)
 simp only[bP]at aH
 obtain⟨cR,us,aN,O5,_⟩:=aH
 simp only[List.cons.injEq]at aN
 obtain⟨rfl,_⟩:=aN
 obtain⟨b,cH,c0,_⟩:=h.box i r hi
 rw[aw]at cH
 simp only[Option.some.injEq]at cH;subst cH
 obtain⟨tJ,lr,Jo,SJ⟩:=c0
 obtain⟨dI,f1,f2⟩:=YT (P:=P) gB BP w SJ
 have c:=Yd (P:=P) gB BP false w
 have bb:(getObj r.bL).run P w= .ok (.map tJ lr) w:=by simp[getObj,Sem.run,Jo]
 have aE:∀o',(setObj r.bL o').run P w= .ok () { w with heap:=w.heap.setIfInBounds r.bL o' } :=fun o'=>by simp[setObj,Sem.run,Jo]
 have fin:∀{es':Array MapEntry} {clk':Nat},(Instr.mapUpdate t (.map (some r.bL)) (hd key) (a.eval cM)).run P w= .ok () { w with heap:=w.heap.setIfInBounds r.bL (.map es' clk') }→iY rd n (qW es key d) es'.toList→eW P N aR aL R o a w K:=by
  intro es' clk' ar hy
  refine eW.skip (w':= { w with heap:=w.heap.setIfInBounds r.bL (.map es' clk') }) ?_ (h.apY hi aw Jo hy) aD b9
  rcases bw with bw|bw<;>simp[execOp,bw,auJ,OW,ar,Result.andThen]
 unfold u3 at f2
 cases Ky:kc es key with
 |none=>
  rw[Ky]at f2
  obtain⟨rfl,f2⟩:=f2
  refine fin (es':=tJ.push { key:=hd key,val:=a.eval cM,born:=lr }) (clk':=lr+1) ?_ (by simpa using f2 d (a.eval cM) lr O5)
  simp only[Instr.mapUpdate,Sem.run_bind,eu hu,Result.andThen_ok,bb,c,f1,aE]
 |some d0=>
  rw[Ky]at f2
  obtain⟨j,v,rfl,_,aF,f2⟩:=f2
  rw[Nat.zero_add]at f1
  have hold:((tJ[j]?).map (·.key)).getD (hd key)=hd key:=by
   rw[←Array.getElem?_toList,aF];rfl
  have e5:(Instr.keyThatStays (hd key) (hd key)).run P w= .ok (hd key) w:=by
   unfold Instr.keyThatStays
   rw[if_pos (ajU gB BP)];rfl
  refine fin (es':=tJ.modify j fun e=> { e with key:=hd key,val:=a.eval cM }) (clk':=lr) ?_ (by simpa using f2 d (a.eval cM) O5)
  simp only[Instr.mapUpdate,Sem.run_bind,eu hu,Result.andThen_ok,bb,c,f1,hold,e5,aE]
theorem Yp:∀{ks:List dM} {σ:St} {j:Nat} {β:bU},bd N aR aL R σ a w rd β→∃β',bd N aR aL R (zG σ j ks) a w rd β'
 |[],_,_,β,h=>⟨β,h⟩
 |ek::ks,σ,j,β,h=>by
  have aJ:(lV ek).isNil=true:=by cases ek<;>rfl
  have bA:=tj σ j ⟨false,false,lV ek⟩ (rd:=rd) (β:=β)
  have h1:=h.Sl (i:=j) (b:=⟨false,false,lV ek⟩) rfl aJ (bA.rep none) bA.af bA.aA
  obtain⟨β',h2⟩:=Yp (j:=j+100000) (ks:=ks) h1
  exact⟨β',h2⟩
theorem Y0 {β:bU} :∀{ks:List dM} {vs:List Value} {j:Nat},Cz vs ks=true→bY rd β (yB j ks) vs
 |[],[],_,_=>by simp only[yB,bY]
 |k::ks,v::vs,j,h=>by
  unfold Cz at h
  split at h
  ·rename_i aN aX;cases aN
  ·rename_i r s aN aX
   simp only[List.cons.injEq]at aN aX
   obtain⟨rfl,rfl⟩:=aN
   obtain⟨rfl,rfl⟩:=aX
   simp only[yB,bY]
   refine⟨_,_,rfl,?_,Y0 h⟩
   simp only[aT]
   exact⟨none,0,rfl,Nat.le_refl _,.inl ⟨trivial,rfl⟩⟩
  ·cases h
 |[],_::_,_,h=>by simp[Cz]at h
 |_::_,[],_,h=>by simp[Cz]at h
theorem akj (h:bd N aR aL R σ a w rd β) {o:Oper} {ks:List dM} (ae:cS P o.type o.op=some (.yk ks)) {i:Nat} (aD:hK N o.dst=true) {K:St→Prop}
 (ad:K (((zG σ (i+500000) ks).fresh i ⟨false,false,.cells (yB (i+500000) ks)⟩).put o.dst (.box i 0))):eW P N aR aL R o a w K:=by
 obtain⟨e,bw,he⟩:=alO ae
 obtain⟨inf,z,ld,bp,auK⟩:∃inf z,P.info? e=some inf∧inf.zero=some z∧Cz z.cells.toList ks=true:=by
  unfold SH at he
  split at he
  ·split at he
   ·rename_i z h1 h2
    split at he
    ·rename_i ay
     simp only[Option.some.injEq]at he;subst he
     cases ld:P.info? e with
     |none=>rw[ld]at h2;cases h2
     |some inf=>rw[ld]at h2;exact⟨inf,z,rfl,h2,ay⟩
    ·cases he
   ·cases he
  ·cases he
 obtain⟨β',h1⟩:=Yp (j:=i+500000) (ks:=ks) h
 have bX:=tj (zG σ (i+500000) ks) i ⟨false,false,.cells (yB (i+500000) ks)⟩ (rd:=rd) (β:=β')
 have h2:=Nb h1 bX (arr:=z.cells) (e:=e) (Y0 auK)
 refine eW.value (u:= .pointer (some (cellAt w.heap.size 0))) ?_ h2 (v:= .box i 0) ?_ aD ad
 ·simp only[execOp,bw,Instr.alloc,Sem.run_bind,AX ld bp,Result.andThen_ok,newVar,newRow,run_newObj,Sem.run_pure]
  rfl
 ·simp only[aT]
  exact⟨ja w _ 1,tk _ _ _,rfl⟩
theorem Q8 (c6:ah P aL Γ) (h:bd N aR aL R σ a w rd β) {o:Oper} {l:bx} (ae:cS P o.type o.op=some l) (aD:hK N o.dst=true) {K:St→Prop}
 (ad:cG Γ o.dst σ K l):eW P N aR aL R o a w K:=by
 have asJ:∀{i:Nat} {xs:List ag} {vs:List Value} {r:Option cY},ag.df i xs=false→bY rd β xs vs→bY rd (fN β i r) xs vs:=fun aJ ar=>
  bY.congr _ _ (fun j aF=>by
   simp only[fN];rw[if_neg];rintro rfl;rw[aJ]at aF;cases aF) ar
 cases l with
 |alloc z=>
  simp only[cG]at ad
  split at ad
  ·rename_i i hi
   refine Ej h ae rfl aD (i:=i) (g:=fun b=>σ.fresh i b) (by simp only[made];exact ad) (fun b=>tj σ i b) (fun x e=>by cases e)
  ·exact ad.elim
 |box x=>
  simp only[cG]at ad
  split at ad
  ·rename_i i hi
   refine Ej h ae rfl aD (i:=i) (g:=fun b=>σ.fresh i b) (by simp only[made];exact ad.2) (fun b=>tj σ i b) (fun y e r vs ar=> ?_)
   simp only[bx.box.injEq]at e
   subst e
   refine asJ ?_ ar
   have:=ad.1
   cases aB:σ.aU x with
   |agg cs=>rw[aB]at this;simpa [ag.has,ag.cells]using this
   |_=>rw[aB]at this;simpa [ag.df,ag.cells]using this
  ·exact ad.elim
 |rJ ek z n=>
  simp only[cG]at ad
  split at ad
  ·rename_i i k m hi hm
   split at ad
   ·rename_i c ay
    refine Ej h ae rfl aD (i:=i) (g:=fun b=>σ.fresh i b) (by simp only[made,hm,ay];exact ad) (fun b=>tj σ i b) (fun x e=>by cases e)
   ·exact ad.elim
  ·exact ad.elim
 |nil ek=>
  simp only[cG]at ad
  split at ad
  ·rename_i i hi
   refine Ej h ae rfl aD (i:=i) (g:=fun b=>σ.fresh i b) (by simp only[made];exact ad) (fun b=>tj σ i b) (fun x e=>by cases e)
  ·exact ad.elim
 |store n x y=>
  simp only[cG]at ad
  split at ad
  ·rename_i i off aj
   split at ad
   ·rename_i e c aw
    obtain⟨h1,h2,ad⟩:=ad
    split at ad
    ·rename_i c' ay
     exact Ic h ae aD aw h1 h2 (.inl ⟨off,aj,ay⟩) ad
    ·exact ad.elim
   ·exact ad.elim
  ·rename_i i j off aj
   split at ad
   ·rename_i e c aw
    obtain⟨h1,h2,ad⟩:=ad
    split at ad
    ·rename_i c' ay
     exact Ic h ae aD aw h1 h2 (.inr ⟨j,off,aj,ay⟩) ad
    ·exact ad.elim
   ·exact ad.elim
  ·exact ad.elim
 |app ek x y=>
  simp only[cG]at ad
  split at ad
  ·rename_i i lo n aj
   split at ad
   ·rename_i c d aw hy
    split at ad
    ·rename_i c' ay
     obtain⟨h1,rfl,aq,aK,ad⟩:=ad
     exact amM h ae aD aj aw hy ay h1 aq aK ad
    ·exact ad.elim
   ·exact ad.elim
  ·exact ad.elim
 |copy ek x y=>
  simp only[cG]at ad
  split at ad
  ·rename_i i lo n aj
   split at ad
   ·rename_i e c d aw hy
    split at ad
    ·rename_i c' m ay
     exact alN h ae aD aj aw hy ay ad.1 ad.2
    ·exact ad.elim
   ·exact ad.elim
  ·exact ad.elim
 |call f args=>
  simp only[cG]at ad
  obtain⟨bm,c1,bw,has⟩:=XO ae
  exact Mn c6 h aD (us:=bm.map a.eval) (by simpa using qP h has) (fun bb=>Q5 bw bb) ad
 |hJ x args=>
  simp only[cG]at ad
  obtain⟨y,bm,c1,bw,hy,has⟩:=QE ae
  have cQ:=ez h hy
  have GO:=qP h has
  split at ad
  ·rename_i f fst cap e
   rw[e]at cQ
   simp only[aT,bj]at cQ
   obtain⟨gd,vc,aB,bA,bX⟩:=cQ
   refine Mn c6 h aD (us:=gd++bm.map a.eval++vc) ?_ (fun bb=>Mm bw aB bb) ad
   simp only[Array.toList_append,Array.toList_map]
   exact zt (zt (Ro bA) GO) (Ro bX)
  ·rename_i f fst cap e
   rw[e]at cQ
   simp only[aT]at cQ
   obtain⟨gd,vc,aB,bA,bX⟩:=cQ
   refine Mn c6 h aD (us:=gd++bm.map a.eval++vc) ?_ (fun bb=>Mm bw aB bb) ad
   simp only[Array.toList_append,Array.toList_map]
   exact zt (zt bA GO) bX
  ·exact ad.elim
 |sj x=>
  simp only[cG]at ad
  split at ad
  ·rename_i b e
   obtain⟨f,args,c1,bw,hf,aB⟩:=akh ae
   obtain⟨y,rfl,ar⟩:=ZS h aB
   rw[e]at ar
   simp only[aT,bj]at ar
   obtain⟨n,aJ,ay⟩:=ar
   refine eW.value (u:= .int .u64 n) (v:= .d (.int .u64 n)) (w':=w) ?_ h (by simp only[aT,bj]) aD (ad n ay)
   have:=alD n hf w
   have bb:a.eval (.func f)= .func (.func f) #[] #[]:=rfl
   simp only[execOp,bw,resolve,Sem.run_bind,List.map_toArray,List.map_cons,List.map_nil,bb,aJ]
   simp[Deferred.ofValue,invoke,this,Result.andThen]
  ·exact ad.elim
 |q0 n=>
  simp only[cG]at ad
  split at ad
  ·rename_i i hi
   refine Ej h ae rfl aD (i:=i) (g:=fun b=>σ.fresh i b) (by simp only[made];exact ad) (fun b=>tj σ i b) (fun x e=>by cases e)
  ·exact ad.elim
 |yk ks=>
  simp only[cG]at ad
  split at ad
  ·rename_i i hi
   exact akj h ae aD ad
  ·exact ad.elim
 |yt n m k x=>
  simp only[cG]at ad
  split at ad
  ·rename_i i key aN aX
   split at ad
   ·rename_i e kZ es d aw aj
    obtain⟨rfl,BP,aQ,ad⟩:=ad
    exact akN h ae aD aN aX aw aj BP aQ ad
   ·exact ad.elim
  ·exact ad.elim
 |sq kQ x args=>
  simp only[cG]at ad
  obtain⟨r,name,bm,c1,bw,rfl,aj,has⟩:=akM ae
  have cQ:=ez h aj
  have GO:=qP h has
  split at ad
  ·rename_i t d e
   rw[e]at cQ
   simp only[aT,bj]at cQ
   obtain⟨u,hu,auL⟩:=cQ
   split at ad
   ·rename_i f kq Dt
    split at ad
    ·rename_i j4 uu
     obtain⟨bc,h1,h2⟩:=Ye (w:=w) bw Dt hu auL uu
     refine Mn c6 h aD (us:= #[bc]++bm.map a.eval) ?_ h1 ad
     simp only[Array.toList_append,Array.toList_map,List.cons_append,List.nil_append,bY]
     exact⟨_,_,rfl,pG h2,GO⟩
    ·exact ad.elim
   ·exact ad.elim
  ·exact ad.elim
 |Bc x=>
  simp only[cG]at ad
  split at ad
  ·rename_i d auM
   obtain⟨UK,ad⟩:=ad
   obtain⟨t,p,s4,e,bw,aQ,hu⟩:=amO ae
   have cQ:=ez h aQ
   have gO:∃c,d.uI=some c∧(c.count=0→d.emp=true)∧(c.fa=0→d.emp=true):=by
    cases d with
    |ints k xs=>exact⟨_,rfl,fun h0=>by cases xs with|nil=>rfl|cons _ _=>simp[BC.count]at h0,fun h0=>by simp[BC.fa]at h0⟩
    |flts xs=>exact⟨_,rfl,fun h0=>by cases xs with|nil=>rfl|cons _ _=>simp[BC.count]at h0,fun h0=>by simp[BC.fa]at h0⟩
    |_=>simp[D.NQ]at UK
   obtain⟨c,ay,KC,Dy⟩:=gO
   obtain⟨A,cap,vs,aB,jx,_,_,fr⟩:=MC h auM ay cQ
   refine eW.value (u:= .bool A.isNone) (v:= .d (.bool A.isNone)) (w':=w) ?_ h (by simp only[aT,bj]) aD (ad _ fun aJ=> ?_)
   ·have N6:=aol (w:=w) A c.count cap 0 0 hu
    simp only[execOp,bw,aB,show a.eval (.const (.slice none 0 0))= .slice none 0 0 from rfl]
    simp[eqGuard,N6]
   ·cases BR:vs with
    |nil=>
     rw[BR]at jx
     rcases Nat.mul_eq_zero.1 (show c.count*c.fa=0 from jx.symm)with h0|h0
     ·exact KC h0
     ·exact Dy h0
    |cons u us=>
     obtain⟨aP,h1,_⟩:=fr 0 u (by rw[BR];rfl)
     rw[h1]at aJ;cases aJ
  ·exact ad.elim
 |_=>
  refine Yo c6 h ae aD ?_
  simpa only[cG]using ad
end
end RV
namespace RV
open Go Go.RowKit
section
variable {N:Nat} {aR:e3} {aL:Mem} {R:bU} {σ σ':St} {a:Act} {w w':World} {rd rd':Mem} {β β':bU} {P:Program} {Γ:Env} {ops:Array Oper}
inductive lg {α iS:Type} (r:α→iS→Prop):List α→List iS→Prop
 |nil:lg r [] []
 |cons {x:α} {y:iS} {xs:List α} {aC:List iS} :r x y→lg r xs aC→lg r (x::xs) (y::aC)
def jh (N:Nat) (aR:e3) (aL:Mem) (R:bU) (K:St→Prop) (a:Act) (w:World):Prop:=∃σ rd β,K σ∧bd N aR aL R σ a w rd β
theorem jh.mono {K fe:St→Prop} (ad:∀σ,K σ→fe σ) (h:jh N aR aL R K a w):jh N aR aL R fe a w:=by
 obtain⟨σ,rd,β,h1,h2⟩:=h
 exact⟨σ,rd,β,ad σ h1,h2⟩
theorem Mp {M:Nat} (cg:N≤M) {d:Option Nat} (h:hK N d=true):hK M d=true:=by
 cases d with
 |none=>rfl
 |some d=>have:=XE h;simp[hK];omega
theorem Me (h:bd N aR aL R σ a w rd β) {o:Oper} {g:Option (Nat×Bool)} (ae:I3 ops o.guard=some g) {yes no:Prop} (bb:guarded σ g yes no):
 (Region.wanted o (yielded ops a.tmps)=true∧yes)∨(Region.wanted o (yielded ops a.tmps)=false∧no):=by
 unfold I3 at ae
 split at ae
 ·rename_i aJ
  simp only[Option.some.injEq]at ae;subst ae
  left
  exact⟨by simp[Region.wanted,aJ],bb⟩
 ·rename_i j b aF
  split at ae
  ·rename_i d aD
   simp only[Option.some.injEq]at ae;subst ae
   simp only[guarded]at bb
   have ar:=h.eX d
   have hw:Region.wanted o (yielded ops a.tmps)=(yielded ops a.tmps j==some b):=by simp[Region.wanted,aF]
   rw[hw]
   split at bb
   ·rename_i c ay
    rw[ay]at ar
    simp only[aT,bj]at ar
    have hy:yielded ops a.tmps j=some c:=by
     unfold yielded
     rw[aD]
     simp only[Option.bind_some]
     rw[Array.getD_eq_getD_getElem?]at ar
     cases e:a.tmps[d]? with
     |none=>rw[e]at ar;cases ar
     |some v=>rw[e]at ar;simp only[Option.getD_some]at ar;subst ar;rfl
    rw[hy]
    by_cases O6:c=b
    ·left;exact⟨by simp[O6],bb.1 O6⟩
    ·right;exact⟨by simpa using O6,bb.2 (by cases c<;>cases b<;>first|rfl|exact absurd rfl O6)⟩
   ·rename_i ay
    rw[ay]at ar
    simp only[aT]at ar
    have hy:yielded ops a.tmps j=none:=by
     unfold yielded
     rw[aD]
     simp only[Option.bind_some]
     rw[Array.getD_eq_getD_getElem?]at ar
     cases e:a.tmps[d]? with
     |none=>rfl
     |some v=>rw[e]at ar;simp only[Option.getD_some]at ar;subst ar;rfl
    rw[hy]
    right;exact⟨rfl,bb⟩
   ·exact bb.elim
  ·cases ae
theorem H8 {o:Oper} {lo:bW} (h:se P N ops o=some lo):∃l g,cS P o.type o.op=some l∧I3 ops o.guard=some g∧hK N o.dst=true∧lo=⟨o.dst,l,g⟩:=by
 unfold se at h
 split at h
 ·rename_i l g h1 h2
  split at h
  ·rename_i aq
   simp only[Option.some.injEq]at h
   exact⟨l,g,h1,h2,aq,h.symm⟩
  ·cases h
 ·cases h
theorem Mq (c6:ah P aL Γ) {M:Nat} (cg:M≤N) {K:St→Prop} {Q:Exit→Act→World→Prop} (cw:∀a w,jh N aR aL R K a w→Q .normal a w):
 ∀(is:List Nat) (rM:List bW),lg (fun i lo=>∃o,ops[i]? =some o∧se P M ops o=some lo) is rM→
 ∀{σ:St} {a:Act} {w:World} {rd:Mem} {β:bU},bd N aR aL R σ a w rd β→hc Γ K rM σ→wpOps P ops Q is a w
 |[],_,h=>fun ay ad=>by
  cases h
  exact cw _ _ ⟨_,_,_,ad,ay⟩
 |i::is,_,h=>fun ay ad=>by
  cases h with
  |cons hi ar=>
   obtain⟨o,bz,Dz⟩:=hi
   obtain⟨l,g,h1,h2,aq,rfl⟩:=H8 Dz
   simp only[hc]at ad
   simp only[wpOps,bz]
   have aD:=Mp cg aq
   rcases Me ay h2 ad with ⟨hw,ad⟩|⟨hw,ad⟩
   ·rw[if_pos hw]
    left
    exact Q8 c6 ay h1 aD ad _ _ fun σ' b7 w' rd' β' cE cZ=>Mq c6 cg cw is _ ar cZ cE
   ·rw[if_neg (by rw[hw];simp)]
    exact Mq c6 cg cw is _ ar (ay.put aD (by simp only[aT])) ad
theorem QF {M:Nat} :∀{os:List Oper} {rM:List bW},zA P M ops os=some rM→lg (fun o lo=>se P M ops o=some lo) os rM
 |[],_,h=>by simp only[zA,Option.some.injEq]at h;subst h;exact .nil
 |o::os,_,h=>by
  simp only[zA]at h
  split at h
  ·rename_i x y h1 h2
   simp only[Option.some.injEq]at h;subst h
   exact .cons h1 (QF h2)
  ·cases h
theorem WX {α iS:Type} {r:α→iS→Prop} :∀{xs:List α} {aC:List iS} (k:Nat) {all:List α},lg r xs aC→(∀j x,xs[j]? =some x→all[k+j]? =some x)→
 lg (fun i y=>∃x,all[i]? =some x∧r x y) (List.range' k xs.length) aC
 |_,_,k,_,.nil,_=> .nil
 |x::xs,y::aC,k,all,.cons h t,H=>by
  rw[List.length_cons,List.range'_succ]
  refine .cons ⟨x,by simpa using H 0 x rfl,h⟩ (WX (k+1) t fun j z aF=> ?_)
  have:=H (j+1) z (by simpa using aF)
  rw[show k+1+j=k+(j+1)by omega];exact this
theorem H3 {M:Nat} {rM:List bW} (h:zA P M ops ops.toList=some rM):lg (fun i lo=>∃o,ops[i]? =some o∧se P M ops o=some lo) (List.range ops.size) rM:=by
 have:=WX 0 (all:=ops.toList) (QF h) (fun j x aF=>by simpa using aF)
 rw[List.range_eq_range']
 simpa using this
end
end RV
namespace RV
open Go Go.RowKit
structure bt (T:(ag→Prop)→Prop):Prop where
 mono:∀K fe:ag→Prop,(∀v,K v→fe v)→T K→T fe
 one:∀K,T K→∃v,T (fun u=>u=v)∧K v
theorem bt.leaf (v:ag):bt fun K=>K v:=⟨fun _ _ h k=>h _ k,fun _ k=>⟨v,rfl,k⟩⟩
theorem bt.no:bt fun _=>False:=⟨fun _ _ _ k=>k,fun _ k=>k.elim⟩
theorem bt.and {p:Prop} {T:(ag→Prop)→Prop} (h:bt T):bt fun K=>p∧T K:=
 ⟨fun K fe ad k=>⟨k.1,h.mono K fe ad k.2⟩,fun K k=>by obtain⟨v,h1,h2⟩:=h.one K k.2;exact⟨v,⟨k.1,h1⟩,h2⟩⟩
theorem MF (k:IntKind) (z:Int):bt (arith k z):=by
 cases k<;>first|exact bt.leaf _|exact bt.and (bt.leaf _)
theorem amP (op:BinOp) (k:IntKind) (x y:Int):bt (E7 op k x y):=by
 cases op<;>first|exact MF _ _|exact bt.and (MF _ _)|exact bt.leaf _|exact bt.and (bt.leaf _)
theorem amQ (op:BinOp) (x y:Nat):bt (E8 op x y):=by
 cases op<;>first|exact bt.leaf _|exact bt.no
theorem RP (o:Option ag):bt fun K=>match o with|some v=>K v|none=>False:=by
 cases o with
 |none=>exact bt.no
 |some v=>exact bt.leaf v
theorem amR (σ:St) (n:Nat) (g:Bool) (v:ag):bt (k8 σ n g v):=by
 cases v with
 |d x=>
  cases x with
  |ptr cs=>cases g with
   |true=>exact bt.and (bt.leaf _)
   |false=>cases cs with
    |nil=>exact bt.no
    |cons d ds=>exact bt.leaf _
  |_=>exact bt.no
 |box i off=>
  show bt fun K=>k8 σ n g (.box i off) K
  simp only[k8]
  cases σ.aA i with
  |none=>exact bt.no
  |some b=>cases b with|mk f e c=>cases c with
   |cells cs=>cases g with
    |true=>exact bt.and (bt.leaf _)
    |false=>exact RP _
   |_=>exact bt.no
 |eo i j off=>
  show bt fun K=>k8 σ n g (.eo i j off) K
  simp only[k8]
  cases σ.aA i with
  |none=>exact bt.no
  |some b=>cases b with|mk f e c=>cases c with
   |cells cs=>exact bt.no
   |ints k xs=>exact bt.and (bt.and (bt.and (bt.leaf _)))
   |flts xs=>exact bt.and (bt.and (bt.and (bt.leaf _)))
   |recs sz xs=>cases g with
    |true=>exact bt.and (bt.and (bt.leaf _))
    |false=>
     refine bt.and ?_
     simp only[Bool.false_eq_true,if_false]
     cases (xs.getD j [])[off]? with
     |none=>exact bt.no
     |some d=>exact bt.leaf _
   |map n es=>exact bt.no
 |_=>exact bt.no
theorem aom (v:ag):bt (Jt v):=by
 cases v with
 |d x=>cases x<;>first|exact bt.leaf _|exact bt.no
 |own i lo n=>exact bt.leaf _
 |_=>exact bt.no
theorem alP (σ:St) (sz:Nat) (v:ag) (i:Int):bt (zF σ sz v i):=by
 cases v with
 |d x=>cases x<;>first|exact bt.and (bt.and (bt.and (bt.leaf _)))|exact bt.no
 |own i lo n=>exact bt.and (bt.and (bt.and (bt.leaf _)))
 |_=>exact bt.no
theorem MG (d:Int) (v:Option ag) {T:Int→(ag→Prop)→Prop} (h:∀i,bt (T i)):bt fun K=>bound d v fun i=>T i K:=by
 cases v with
 |none=>exact h d
 |some v=>cases v with
  |d x=>cases x<;>first|exact h _|exact bt.no
  |_=>exact bt.no
theorem aon (σ:St) (sz:Nat) (v:ag) (lo hi:Option ag):bt (tG σ sz v lo hi):=by
 show bt fun K=>tG σ sz v lo hi K
 cases v with
 |d x=>cases x<;>simp only[tG]<;>first|exact bt.no|(refine MG _ _ fun l=>MG _ _ fun h=> ?_;exact bt.and (bt.and (bt.and (bt.and (bt.leaf _)))))
 |own i lo n=>simp only[tG];refine MG _ _ fun l=>MG _ _ fun h=> ?_;exact bt.and (bt.and (bt.and (bt.and (bt.leaf _))))
 |_=>exact bt.no
theorem amS (t:Bool) (x y:ag):bt fun K=>(t=true→K x)∧(t=false→K y):=by
 cases t
 ·exact⟨fun K fe h k=>⟨fun e=>Bool.noConfusion e,fun e=>h _ (k.2 e)⟩,fun K k=>⟨y,⟨fun e=>Bool.noConfusion e,fun _=>rfl⟩,k.2 rfl⟩⟩
 ·exact⟨fun K fe h k=>⟨fun e=>h _ (k.1 e),fun e=>Bool.noConfusion e⟩,fun K k=>⟨x,⟨fun _=>rfl,fun e=>Bool.noConfusion e⟩,k.1 rfl⟩⟩
theorem amT (C:gu) (σ:St) (vs:List ag):bt fun K=>yA C σ K vs:=by
 simp only[yA]
 split
 ·exact bt.and (bt.and (bt.leaf _))
 ·exact bt.no
theorem Rq (Γ:Env) (σ:St) (l:bx):bt fun K=>bf Γ σ K l:=by
 cases l with
 |bg x=>exact bt.leaf _
 |pick c x y=>
  simp only[bf]
  generalize σ.aU c=X
  cases X with
  |d z=>cases z<;>first|exact amS _ _ _|exact bt.no
  |_=>exact bt.no
 |load n g x=>exact amR _ _ _ _
 |zH x=>
  simp only[bf]
  generalize σ.aU x=X
  cases X with
  |d z=>cases z<;>first|exact bt.leaf _|exact bt.no
  |_=>first|exact bt.leaf _|exact bt.no
 |bin op x y=>
  simp only[bf]
  generalize σ.aU x=X
  generalize σ.aU y=Y
  split
  ·exact bt.and (amP _ _ _ _)
  ·exact amQ _ _ _
  ·exact bt.no
 |yQ ne x y=>
  simp only[bf]
  generalize (σ.aU x).pair=X
  generalize (σ.aU y).pair=Y
  split
  ·exact bt.leaf _
  ·exact bt.no
 |q5 ne x y=>
  simp only[bf]
  generalize σ.aU x=X
  generalize σ.aU y=Y
  split
  ·exact bt.leaf _
  ·exact bt.no
 |un op x=>
  simp only[bf]
  generalize σ.aU x=X
  split
  ·exact bt.leaf _
  ·exact MF _ _
  ·exact bt.leaf _
  ·exact bt.no
 |conv k x=>
  simp only[bf]
  generalize σ.aU x=X
  split
  ·exact MF _ _
  ·exact bt.no
 |ys x=>
  simp only[bf]
  generalize σ.aU x=X
  split
  ·exact bt.leaf _
  ·exact bt.leaf _
  ·exact bt.no
 |fM off x=>
  simp only[bf]
  generalize σ.aU x=X
  split<;>first|exact bt.leaf _|exact bt.no
 |BI off n g x=>
  simp only[bf]
  generalize σ.aU x=X
  split
  ·cases g with
   |true=>exact bt.and (bt.leaf _)
   |false=>exact RP _
  ·exact bt.no
 |iE sz x i=>
  simp only[bf]
  generalize σ.aU i=X
  split
  ·exact alP _ _ _ _
  ·exact bt.no
 |Bb len sz x i=>
  simp only[bf]
  generalize σ.aU x=X
  generalize σ.aU i=Y
  split
  ·exact bt.and (bt.and (bt.leaf _))
  ·exact bt.and (bt.and (bt.leaf _))
  ·exact bt.no
 |idx len n g x i=>
  simp only[bf]
  generalize σ.aU x=X
  generalize σ.aU i=Y
  split
  ·cases g with
   |true=>exact bt.and (bt.and (bt.and (bt.leaf _)))
   |false=>exact bt.and (bt.and (RP _))
  ·exact bt.no
 |l5 i x=>
  simp only[bf]
  generalize σ.aU x=X
  split
  ·split
   ·exact bt.leaf _
   ·exact bt.no
  ·exact bt.no
 |len x=>exact aom _
 |po x y=>
  simp only[bf]
  generalize σ.aU x=X
  generalize σ.aU y=Y
  split
  ·exact bt.leaf _
  ·exact bt.no
 |Cd x y=>
  simp only[bf]
  generalize σ.aU x=X
  generalize σ.aU y=Y
  split
  ·exact bt.leaf _
  ·exact bt.no
 |BJ sz x lo hi=>exact aon _ _ _ _ _
 |build zero parts=>
  simp only[bf]
  split
  ·exact bt.leaf _
  ·exact bt.no
 |rI ek parts=>
  simp only[bf]
  refine bt.and ?_
  split
  ·split
   ·exact bt.leaf _
   ·exact bt.no
  ·exact bt.no
 |Bn f x y=>
  simp only[bf]
  split
  ·split
   ·exact bt.leaf _
   ·exact bt.no
  ·exact bt.leaf _
 |call f bm=>
  simp only[bf]
  split
  ·exact bt.and (bt.and (bt.leaf _))
  ·exact bt.no
 |hJ x bm=>
  simp only[bf]
  split
  ·split
   ·exact bt.and (bt.and (bt.leaf _))
   ·exact bt.no
  ·split
   ·exact amT _ _ _
   ·exact bt.no
  ·exact bt.no
 |sq kQ x bm=>
  simp only[bf]
  split
  ·split
   ·split
    ·exact bt.and (bt.and (bt.leaf _))
    ·exact bt.no
   ·exact bt.no
  ·exact bt.no
 |yj ne x=>
  simp only[bf]
  split<;>first|exact bt.leaf _|exact bt.no
 |yR ne len x y=>
  simp only[bf]
  split
  ·exact bt.and (bt.and (bt.leaf _))
  ·exact bt.no
 |BK t x=>
  simp only[bf]
  refine bt.and ?_
  split
  ·exact bt.leaf _
  ·exact bt.no
 |oT x=>
  simp only[bf]
  split
  ·exact bt.leaf _
  ·exact bt.no
 |Bo n ok z m k=>
  simp only[bf]
  split
  ·split
   ·refine bt.and (bt.and ?_)
    split
    ·exact bt.leaf _
    ·exact bt.leaf _
   ·exact bt.no
  ·exact bt.no
 |_=>exact bt.no
theorem MS (σ:St) (l:bx) (i:Nat) (K:ag→cm→Prop):made σ l K i↔∃v b,made σ l (fun cR fm=>cR=v∧fm=b) i∧K v b:=by
 cases l with
 |rJ ek z n=>
  simp only[made]
  generalize σ.aU n=X
  cases X with
  |d x=>cases x with
   |int k m=>
    simp only
    cases tu ek z m.toNat with
    |none=>simp
    |some c=>constructor
             ·rintro⟨h1,h2,aq⟩;exact⟨_,_,⟨h1,h2,rfl,rfl⟩,aq⟩
             ·rintro⟨_,_,⟨h1,h2,rfl,rfl⟩,aq⟩;exact⟨h1,h2,aq⟩
   |_=>simp
  |_=>simp
 |alloc z=>simp only[made];constructor
           ·intro h;exact⟨_,_,⟨rfl,rfl⟩,h⟩
           ·rintro⟨_,_,⟨rfl,rfl⟩,h⟩;exact h
 |nil ek=>simp only[made];constructor
          ·intro h;exact⟨_,_,⟨rfl,rfl⟩,h⟩
          ·rintro⟨_,_,⟨rfl,rfl⟩,h⟩;exact h
 |q0 n=>simp only[made];constructor
        ·intro h;exact⟨_,_,⟨rfl,rfl⟩,h⟩
        ·rintro⟨_,_,⟨rfl,rfl⟩,h⟩;exact h
 |box x=>simp only[made];constructor
         ·rintro⟨h1,h⟩;exact⟨_,_,⟨h1,rfl,rfl⟩,h⟩
         ·rintro⟨_,_,⟨h1,rfl,rfl⟩,h⟩;exact⟨h1,h⟩
 |_=>simp[made]
theorem XQ (σ:St) (n:Nat) (x y:bk) (K:Nat→cm→Prop):stored σ n x y K↔∃i b,stored σ n x y (fun lM fm=>lM=i∧fm=b)∧K i b:=by
 cases x with
 |c d=>simp[stored]
 |t p=>
  simp only[stored]
  generalize σ.aU (.t p)=X
  cases X with
  |box i off=>
   simp only
   generalize σ.aA i=B
   rcases B with _|⟨f,e,c⟩
   ·simp
   ·cases f with
    |true=>simp
    |false=>
     simp only
     cases tv c off (σ.aU y).cells with
     |none=>simp
     |some c'=>
      constructor
      ·rintro⟨h1,h2,aq,aK⟩;exact⟨_,_,⟨h1,h2,aq,rfl,rfl⟩,aK⟩
      ·rintro⟨_,_,⟨h1,h2,aq,rfl,rfl⟩,aK⟩;exact⟨h1,h2,aq,aK⟩
  |_=>simp
theorem akk (σ:St) (n:Nat) (x y:bk) (K:Nat→cm→Prop):yc σ n x y K↔∃i b,yc σ n x y (fun lM fm=>lM=i∧fm=b)∧K i b:=by
 simp only[yc]
 generalize σ.aU x=X
 cases X with
 |box i off=>
  simp only
  generalize σ.aA i=B
  rcases B with _|⟨f,e,c⟩
  ·simp
  ·cases f with
   |true=>simp
   |false=>
    simp only
    cases tv c off (σ.aU y).cells with
    |none=>simp
    |some c'=>
     constructor
     ·rintro⟨h2,aq,aK⟩;exact⟨_,_,⟨h2,aq,rfl,rfl⟩,aK⟩
     ·rintro⟨_,_,⟨h2,aq,rfl,rfl⟩,aK⟩;exact⟨h2,aq,aK⟩
 |eo i j off=>
  simp only
  generalize σ.aA i=B
  rcases B with _|⟨f,e,c⟩
  ·simp
  ·cases f with
   |true=>simp
   |false=>
    simp only
    cases u2 c j off (σ.aU y).cells with
    |none=>simp
    |some c'=>
     constructor
     ·rintro⟨h2,aq,aK⟩;exact⟨_,_,⟨h2,aq,rfl,rfl⟩,aK⟩
     ·rintro⟨_,_,⟨h2,aq,rfl,rfl⟩,aK⟩;exact⟨h2,aq,aK⟩
 |_=>simp
theorem H9 (cl:List Nat) (σ:St) (n:Nat) (x y:bk) (K:Nat→cm→Prop):uX cl σ n x y K↔∃i b,uX cl σ n x y (fun lM fm=>lM=i∧fm=b)∧K i b:=by
 cases cl with
 |nil=>exact akk ..
 |cons _ _=>exact XQ ..
end RV
