/- PROVED: TrigTells, its tied card: for every input the law returns true. -/
import Derived.Test.YtfnabehbkmlofaaGreatDoorRj
import Derived.Test.YtfnabehbkmlofaaGreatDoorRi
import Derived.Test.YtfnabehbkmlofaaGreatDoorRows
import Derived.Test.YtfnabehbkmlofaaGreatDoorCards
import Derived.Test.YtfnabehbkmlofaaGreatDoorTie
import Derived.ProofKit
import Derived.WideKeyArgs
import Derived.Carry
import Derived.LaidLaws
import Derived.LaidHandle
import Derived.Lay
import Derived.Handed
import Derived.JoinedOf
import Derived.MakeChecks
import Derived.FnData
import Derived.SevenTiedAt
set_option linter.all false
namespace Go.Proofs.YtfnabehbkmlofaaGreatDoor
open Go Go.ChangeShapes Go.WideShapes Go.ChangeAt Go.RowKit
set_option maxRecDepth 100000
set_option linter.unusedVariables false
theorem vf:ownKnob Tryz.prog.godebug=none:=by kernel_rfl
theorem lT:laidOutB Tryz.prog=true:=by kernel_rfl
theorem oO:RV.fieldsOf Tryz.prog 43=some [(3,0),(3,1)]:=by kernel_rfl
theorem yi:Tryz.prog.cellsOf 43=2:=by kernel_rfl
theorem tt:Tryz.prog.underlying 4=some .bool:=by kernel_rfl
theorem I0:Tryz.prog.cellsOf 4=1:=by kernel_rfl
theorem u6:Tryz.prog.underlying 3=some (.int .i64):=by kernel_rfl
theorem u7:Tryz.prog.cellsOf 3=1:=by kernel_rfl
theorem jU:Tryz.prog.underlying 5=some (.int .u8):=by kernel_rfl
theorem vg:Tryz.prog.cellsOf 5=1:=by kernel_rfl
theorem vE:Tryz.prog.underlying 180=some (.array 64 5):=by kernel_rfl
theorem l4:Tryz.prog.globalNamed "math/bits.deBruijn64tab" =some 2:=by kernel_rfl
theorem vh:(Tryz.prog.globals[2]?).map (·.type)=some 180:=by kernel_rfl
def mB:List Int:=[0,1,56,2,57,49,28,3,61,58,42,50,38,29,17,4,62,47,59,36,45,43,51,22,53,39,33,30,24,18,12,5,63,55,48,27,60,41,37,16,46,35,44,21,52,32,23,11,54,26,40,15,34,20,31,10,25,14,19,9,13,8,7,6]
theorem uV:∀t:Nat,t<64→mB.getD (RV.Dr.iP t) 0=(t:Int):=by decide+kernel
theorem uW {W:World} (dz:laidMetH Tryz.prog [("math/bits.deBruijn32tab",Rows.laid_math_bits_deBruijn32tab),("math/bits.deBruijn64tab",Rows.laid_math_bits_deBruijn64tab)] W):RV.Dr.sB W.cell? :=by
 rw[MakeChecks.laidMetH_plain _ _ _ (by rfl)]at dz
 obtain⟨ps,aB,_⟩:=dz
 obtain⟨_,_,_,_,_,_,_,_,_,_,aB,_⟩:=aB
 obtain⟨g,t,cs,fuel,p,q,bb,ae,ay,aD,_,_⟩:=aB
 have aN:g=2:=Option.some.inj (bb.symm.trans l4)
 subst aN
 have aX:t=180:=Option.some.inj (ae.symm.trans vh)
 subst aX
 have fr:=RV.Eh (xs:=mB) vE jU vg rfl aD
 intro k ad
 have h1:=World.var?_cell l4 ay (RV.Dr.iP k)
 have h2:=fr (RV.Dr.iP k) (RV.Dr.CP k)
 rw[uV k ad,Array.getElem?_toList]at h2
 exact h1.trans h2
noncomputable def lU (os:Os):World:=World.laidAll Tryz.prog os Rows.trigTellsRow.laid
theorem uP (os:Os) (args:Array Value):laidMetH Tryz.prog Rows.trigTellsRow.laid ((lU os).forCall (fun _ _=>0) ⟨#[],args,[]⟩).memory:=by
 rw[MakeChecks.laidMetH_plain _ _ _ (by rfl)]
 exact laidMet_laidAll args (by kernel_rfl) (by kernel_rfl)
theorem lifted (os:Os) (started:os.Started) (H:Type) (enc:TypeId×Value→H):
 ReturnsInHanded {} Tryz.checked os 4 .any (fun w args=>(Rows.trigTellsSpec.pre enc Tryz.prog Tryz.f4 [] false w args∧laidMetH Tryz.prog Rows.trigTellsRow.laid w)∧sizedMet enc Tryz.prog Tryz.f4 (OpenSpec.ofChange Rows.trigTellsSpec) false w args)
  (Rows.trigTellsSpec.post enc Tryz.prog Tryz.f4 false true false false):=by
 refine returnsInHanded_of_change_and (C:=Tryz.checked) (X:=fun w _=>laidMetH Tryz.prog Rows.trigTellsRow.laid w) (fun _ _ _ dT h=>h.of_heap dT) vf started (by kernel_rfl) Tryz.func4
  (ChangeSpec.witness_at (enc:=enc) (C:=Tryz.checked) (os:=os) (X:=fun w _=>laidMetH Tryz.prog Rows.trigTellsRow.laid w) false (lU os) #[.agg #[.int .i64 0,.int .i64 0],.int .u8 0,.int .u8 0] 8 (World.laidAll_os _ _ _) (by kernel_rfl) (by kernel_rfl) (by kernel_rfl) (by kernel_rfl) (by kernel_rfl) (uP os _)) ?_
 intro W base args ds gs before hval0 hW _ _ dz _
 have hval:∀(j:Nat) t v,Tryz.f4.params[j]? =some t→args[j]? =some v→Value.okWide Tryz.prog W .any base t v:=hval0
 have hW':=hW
 obtain⟨p,q,hA0,hV,rfl,hfz,hnd⟩:=hW
 have hA:DataW.TrodAll enc Tryz.prog W 0 (fun _=>true) true Tryz.f4.params.toList args.toList ds p:=hA0
 have b8:Tryz.f4.params= #[43,5,5]:=by kernel_rfl
 rw[b8]at hA hval
 obtain⟨v0,LD,d0,LF,p0,ep,Js,rfl,rfl,h0,ia⟩:=trodAll_cons hA
 obtain⟨v1,LA,d1,V9,p1,dP,rfl,rfl,rfl,h1,bA⟩:=trodAll_cons ia
 obtain⟨v2,V6,d2,axI,cq,fw,rfl,rfl,rfl,h2,bX⟩:=trodAll_cons bA
 obtain⟨rfl,rfl,rfl⟩:=trodAll_nil bX
 obtain rfl:args= #[v0,v1,v2]:=by cases args;simp_all
 obtain⟨rfl,rfl⟩:=trodVars_none hV
 clear hA0 hval0
 have cy:=uW dz
 obtain⟨dE,rfl,dr⟩:=RV.Ex oO (hval 0 43 v0 rfl rfl)
 have hn:=h0
 obtain⟨qK,hn⟩:=hn
 obtain⟨rY,rZ,Ao⟩:=RV.E5 oO u6 u7 yi hn
 obtain⟨gT,rfl⟩:=okWide_int jU (hval 1 5 v1 rfl rfl)
 have ct:=h1
 obtain⟨ew,ct⟩:=ct
 obtain⟨D2,jY,_,gD⟩:=DataW.trod_int jU ct
 obtain rfl:gT=D2:=by simpa [Value.cells]using jY
 have fl:0≤gT∧gT<256:=by
  have:=gD
  simp only[Lit.wf,Bool.and_eq_true,decide_eq_true_eq]at this
  have cj:IntKind.u8.min=0:=by decide
  have ej:IntKind.u8.max=255:=by decide
  omega
 obtain⟨kz,rfl⟩:=okWide_int jU (hval 2 5 v2 rfl rfl)
 have db:=h2
 obtain⟨eN,db⟩:=db
 obtain⟨LS,pg,_,Ai⟩:=DataW.trod_int jU db
 obtain rfl:kz=LS:=by simpa [Value.cells]using pg
 have jX:0≤kz∧kz<256:=by
  have:=Ai
  simp only[Lit.wf,Bool.and_eq_true,decide_eq_true_eq]at this
  have cj:IntKind.u8.min=0:=by decide
  have ej:IntKind.u8.max=255:=by decide
  omega
 have fz:RV.bP W.cell? [.agg [.int .i64 rY,.int .i64 rZ],.int .u8 gT,.int .u8 kz] (#[Value.agg dE,Value.int .u8 gT,Value.int .u8 kz]:Array Value).toList:=by
  simp only[RV.bP,RV.bj]
  exact⟨_,_,rfl,⟨dE,rfl,Ao⟩,⟨_,_,rfl,rfl,⟨_,_,rfl,rfl,rfl⟩⟩⟩
 have bl:∀x∈p0++(p1++(cq++[])),x.block<W.heap.size:=fun x aj=>hW'.lt x (List.mem_append_left _ aj)
 have vi:=(RV.Dr.ve cy).2 _ ⟨rY,rZ,gT,kz,rfl,fl.1,fl.2,jX.1,jX.2⟩ W W.cell? #[.agg dE,.int .u8 gT,.int .u8 kz] (RV.b3.refl _) (RV.b3.refl _) fz
 refine vi.mono fun e W' he=> ?_
 obtain⟨v,rfl,aw,oU⟩:=he
 have aB:=oU.1 rfl
 have aB:v= .bool true:=aB
 subst aB
 have aN:Rows.trigTellsSpec.fn H ([d0,d1,d2]++[])= { results:=[.lit (.bool true)],args:=[d0,d1,d2] } :=by simp[Rows.trigTellsSpec]
 refine⟨_,rfl,_,_,_,[],p0++(p1++(cq++[])),[],hW',?_,?_,?_,aw.frame _,fun h=>by cases h⟩
 ·rw[aN];exact trodAll_mk1 (shut_bool tt true)
 ·rw[aN,b8]
  exact trodAll_cons_mk (Below.trod lT (by kernel_rfl) (of_decide_eq_true (by kernel_rfl)) h0 aw fun x aj=>bl x (List.mem_append_left _ aj))
   (trodAll_cons_mk (Below.trod lT (by kernel_rfl) (of_decide_eq_true (by kernel_rfl)) h1 aw fun x aj=>bl x (List.mem_append_right _ (List.mem_append_left _ aj)))
   (trodAll_cons_mk (Below.trod lT (by kernel_rfl) (of_decide_eq_true (by kernel_rfl)) h2 aw fun x aj=>bl x (List.mem_append_right _ (List.mem_append_right _ (List.mem_append_left _ aj))))
   trodAll_mk0))
 ·rw[aN];rfl
theorem over:Rows.TrigTellsSaid:=
 OpenClaim.holds_of_wide 4 Tryz.f4 rfl rfl rfl rfl rfl rfl rfl ⟨rfl,rfl,rfl,rfl,rfl⟩ rfl rfl rfl rfl rfl (by kernel_rfl) Tryz.func4 (by kernel_rfl)
  (of_decide_eq_true (by kernel_rfl)) (by unfold Func.isWrapper;first|(rw[if_pos (by decide+kernel)];kernel_rfl)|(rw[if_neg (by decide+kernel)];exact⟨rfl,rfl⟩))
  (fun os started H enc _=>lifted os started H enc)
theorem trigTells_card:Rows.TrigTellsCardSaid:=
 Claim7.holds_tied_plain_at .later [] [.data,.data] true (true,"3a983f5c9768fe85505ae185d5ba176c8308c1664a39c30cd548c64ea07ffc02") false
  over (fun _ h=>by cases h) (by kernel_rfl) (fun _ h=>by cases h) trigTells_row_tie rfl ⟨rfl,rfl⟩ (by kernel_rfl) rfl
  (fun f fn hf ga=>by
   obtain rfl:f=4:=(Option.some.inj ((show Tryz.prog.funcNamed "overtone/overtonelaw08.TrigTells" =some 4 by kernel_rfl).symm.trans hf)).symm
   obtain rfl:fn=Tryz.f4:=(Option.some.inj (Tryz.func4.symm.trans ga)).symm
   exact⟨by kernel_rfl,fun j t ae=>by
    have b8:Tryz.f4.params= #[43,5,5]:=by kernel_rfl
    rw[b8]at ae
    rcases j with _|_|_|j
    ·obtain rfl:t=43:=by simpa using ae.symm
     exact(show Tryz.prog.wantsStandIn 43=false by kernel_rfl)
    ·obtain rfl:t=5:=by simpa using ae.symm
     exact(show Tryz.prog.wantsStandIn 5=false by kernel_rfl)
    ·obtain rfl:t=5:=by simpa using ae.symm
     exact(show Tryz.prog.wantsStandIn 5=false by kernel_rfl)
    ·simp at ae⟩)
  (by kernel_rfl)
#print axioms trigTells_card
end Go.Proofs.YtfnabehbkmlofaaGreatDoor
