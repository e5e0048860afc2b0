/- PROVED: CircTells, its tied card: for every input the law returns true. -/
import Derived.Test.YtmdjhngbigfblaaGreatDoorRl
import Derived.Test.YtmdjhngbigfblaaGreatDoorRm
import Derived.Test.YtmdjhngbigfblaaGreatDoorRows
import Derived.Test.YtmdjhngbigfblaaGreatDoorCards
import Derived.Test.YtmdjhngbigfblaaGreatDoorTie
import Derived.ProofKit
import Derived.WideKeyArgs
import Derived.Carry
import Derived.LaidLaws
import Derived.LaidHandle
import Derived.Lay
import Derived.Handed
import Derived.JoinedOf
import Derived.MakeChecks
import Derived.FnData
import Derived.SevenTiedAt
set_option linter.all false
namespace Go.Proofs.YtmdjhngbigfblaaGreatDoor
open Go Go.ChangeShapes Go.WideShapes Go.ChangeAt Go.RowKit
set_option maxRecDepth 100000
set_option linter.unusedVariables false
theorem aem:ownKnob Tryz.prog.godebug=none:=by kernel_rfl
theorem ED:laidOutB Tryz.prog=true:=by kernel_rfl
theorem Ry:RV.fieldsOf Tryz.prog 24=some [(4,0),(22,1),(3,2)]:=by kernel_rfl
theorem adl:Tryz.prog.underlying 22=some (.slice 3):=by kernel_rfl
theorem adn:Tryz.prog.cellsOf 22=1:=by kernel_rfl
theorem adV:Tryz.prog.cellsOf 24=3:=by kernel_rfl
theorem PW:RV.fieldsOf Tryz.prog 43=some [(3,0),(3,1)]:=by kernel_rfl
theorem ado:Tryz.prog.cellsOf 43=2:=by kernel_rfl
theorem PX:Tryz.prog.underlying 4=some .bool:=by kernel_rfl
theorem adp:Tryz.prog.cellsOf 4=1:=by kernel_rfl
theorem FQ:Tryz.prog.underlying 3=some (.int .i64):=by kernel_rfl
theorem FR:Tryz.prog.cellsOf 3=1:=by kernel_rfl
theorem F8:Tryz.prog.underlying 5=some (.int .u8):=by kernel_rfl
theorem aen:Tryz.prog.cellsOf 5=1:=by kernel_rfl
theorem agt:Tryz.prog.underlying 127=some (.array 64 5):=by kernel_rfl
theorem Si:Tryz.prog.globalNamed "math/bits.deBruijn64tab" =some 1:=by kernel_rfl
theorem aeo:(Tryz.prog.globals[1]?).map (·.type)=some 127:=by kernel_rfl
def Uc:List Int:=[0,1,56,2,57,49,28,3,61,58,42,50,38,29,17,4,62,47,59,36,45,43,51,22,53,39,33,30,24,18,12,5,63,55,48,27,60,41,37,16,46,35,44,21,52,32,23,11,54,26,40,15,34,20,31,10,25,14,19,9,13,8,7,6]
theorem acv:∀t:Nat,t<64→Uc.getD (RV.Dr.qa t) 0=(t:Int):=by decide+kernel
theorem acw {W:World} (gu:laidMetH Tryz.prog [("math/bits.deBruijn32tab",Rows.laid_math_bits_deBruijn32tab),("math/bits.deBruijn64tab",Rows.laid_math_bits_deBruijn64tab)] W):RV.Dr.HH W.cell? :=by
 rw[MakeChecks.laidMetH_plain _ _ _ (by rfl)]at gu
 obtain⟨ps,aA,_⟩:=gu
 obtain⟨_,_,_,_,_,_,_,_,_,_,aA,_⟩:=aA
 obtain⟨g,t,cs,fuel,p,q,bb,ae,ao,aC,_,_⟩:=aA
 have a1:g=1:=Option.some.inj (bb.symm.trans Si)
 subst a1
 have a6:t=127:=Option.some.inj (ae.symm.trans aeo)
 subst a6
 have gl:=RV.aaS (xs:=Uc) agt F8 aen rfl aC
 intro k ad
 have h1:=World.var?_cell Si ao (RV.Dr.qa k)
 have h2:=gl (RV.Dr.qa k) (RV.Dr.Q9 k)
 rw[acv k ad,Array.getElem?_toList]at h2
 exact h1.trans h2
noncomputable def Nm (os:Os):World:=World.laidAll Tryz.prog os Rows.circTellsRow.laid
theorem ZC (os:Os) (args:Array Value):laidMetH Tryz.prog Rows.circTellsRow.laid ((Nm os).forCall (fun _ _=>0) ⟨#[],args,[]⟩).memory:=by
 rw[MakeChecks.laidMetH_plain _ _ _ (by rfl)]
 exact laidMet_laidAll args (by kernel_rfl) (by kernel_rfl)
theorem lifted (os:Os) (started:os.Started) (H:Type) (enc:TypeId×Value→H):
 ReturnsInHanded {} Tryz.checked os 4 .any (fun w args=>(Rows.circTellsSpec.pre enc Tryz.prog Tryz.f4 [] false w args∧laidMetH Tryz.prog Rows.circTellsRow.laid w)∧sizedMet enc Tryz.prog Tryz.f4 (OpenSpec.ofChange Rows.circTellsSpec) false w args)
  (Rows.circTellsSpec.post enc Tryz.prog Tryz.f4 false true false false):=by
 refine returnsInHanded_of_change_and (C:=Tryz.checked) (X:=fun w _=>laidMetH Tryz.prog Rows.circTellsRow.laid w) (fun _ _ _ dZ h=>h.of_heap dZ) aem started (by kernel_rfl) Tryz.func4
  (ChangeSpec.witness_at (enc:=enc) (C:=Tryz.checked) (os:=os) (X:=fun w _=>laidMetH Tryz.prog Rows.circTellsRow.laid w) false (Nm os) #[.agg #[.int .i64 0,.int .i64 0],.int .u8 0,.agg #[.bool false,.slice none 0 0,.int .i64 0]] 8 (World.laidAll_os _ _ _) (by kernel_rfl) (by kernel_rfl) (by kernel_rfl) (by kernel_rfl) (by kernel_rfl) (ZC os _)) ?_
 intro W base args ds gs before hval0 hW _ _ gu _
 have hval:∀(j:Nat) t v,Tryz.f4.params[j]? =some t→args[j]? =some v→Value.okWide Tryz.prog W .any base t v:=hval0
 have hW':=hW
 obtain⟨p,q,hA0,hV,rfl,hfz,hnd⟩:=hW
 have hA:DataW.TrodAll enc Tryz.prog W 0 (fun _=>true) true Tryz.f4.params.toList args.toList ds p:=hA0
 have cF:Tryz.f4.params= #[43,5,24]:=by kernel_rfl
 rw[cF]at hA hval
 obtain⟨v0,ame,d0,amf,p0,amH,aln,rfl,rfl,h0,l5⟩:=trodAll_cons hA
 obtain⟨v1,amg,d1,amh,p1,ea,rfl,rfl,rfl,h1,bP⟩:=trodAll_cons l5
 obtain⟨v2,ami,d2,amj,cS,ft,rfl,rfl,rfl,h2,ca⟩:=trodAll_cons bP
 obtain⟨rfl,rfl,rfl⟩:=trodAll_nil ca
 obtain rfl:args= #[v0,v1,v2]:=by cases args;simp_all
 obtain⟨rfl,rfl⟩:=trodVars_none hV
 clear hA0 hval0
 have b5:=acw gu
 obtain⟨eb,rfl,eW⟩:=RV.OT PW (hval 0 43 v0 rfl rfl)
 have uv:=h0
 obtain⟨amI,uv⟩:=uv
 obtain⟨YD,YE,akp⟩:=RV.ael PW FQ FR ado uv
 obtain⟨m5,rfl⟩:=okWide_int F8 (hval 1 5 v1 rfl rfl)
 have cW:=h1
 obtain⟨iS,cW⟩:=cW
 obtain⟨zp,iu,_,g9⟩:=DataW.trod_int F8 cW
 obtain rfl:m5=zp:=by simpa [Value.cells]using iu
 have e1:0≤m5∧m5<256:=by
  have:=g9
  simp only[Lit.wf,Bool.and_eq_true,decide_eq_true_eq]at this
  have eR:IntKind.u8.min=0:=by decide
  have eX:IntKind.u8.max=255:=by decide
  omega
 obtain⟨eX,rfl,cu⟩:=RV.OT Ry (hval 2 24 v2 rfl rfl)
 have dy:=h2
 obtain⟨k9,dy⟩:=dy
 obtain⟨YF,YG,YH,kk⟩:=RV.aek Ry PX adl FQ FQ adp adn FR FR adV dy
 have gF:RV.bI W.cell? [.agg [.int .i64 YD,.int .i64 YE],.int .u8 m5,.agg [.bool YF,.ints .i64 YG,.int .i64 YH]] (#[Value.agg eb,Value.int .u8 m5,Value.agg eX]:Array Value).toList:=by
  simp only[RV.bI,RV.bn]
  exact⟨_,_,rfl,⟨eb,rfl,akp⟩,⟨_,_,rfl,rfl,⟨_,_,rfl,⟨eX,rfl,kk⟩,rfl⟩⟩⟩
 have bp:∀x∈p0++(p1++(cS++[])),x.block<W.heap.size:=fun x ah=>hW'.lt x (List.mem_append_left _ ah)
 have aep:=(RV.Dr.aej b5).2 _ ⟨YD,YE,m5,YF,YG,YH,rfl,e1.1,e1.2⟩ W W.cell? #[.agg eb,.int .u8 m5,.agg eX] (RV.bT.refl _) (RV.bT.refl _) gF
 refine aep.mono fun e W' he=> ?_
 obtain⟨v,rfl,ar,u5⟩:=he
 have aA:=u5.1 rfl
 have aA:v= .bool true:=aA
 subst aA
 have a1:Rows.circTellsSpec.fn H ([d0,d1,d2]++[])= { results:=[.lit (.bool true)],args:=[d0,d1,d2] } :=by simp[Rows.circTellsSpec]
 refine⟨_,rfl,_,_,_,[],p0++(p1++(cS++[])),[],hW',?_,?_,?_,ar.frame _,fun h=>by cases h⟩
 ·rw[a1];exact trodAll_mk1 (shut_bool PX true)
 ·rw[a1,cF]
  exact trodAll_cons_mk (Below.trod ED (by kernel_rfl) (of_decide_eq_true (by kernel_rfl)) h0 ar fun x ah=>bp x (List.mem_append_left _ ah))
   (trodAll_cons_mk (Below.trod ED (by kernel_rfl) (of_decide_eq_true (by kernel_rfl)) h1 ar fun x ah=>bp x (List.mem_append_right _ (List.mem_append_left _ ah)))
   (trodAll_cons_mk (Below.trod ED (by kernel_rfl) (of_decide_eq_true (by kernel_rfl)) h2 ar fun x ah=>bp x (List.mem_append_right _ (List.mem_append_right _ (List.mem_append_left _ ah))))
   trodAll_mk0))
 ·rw[a1];rfl
theorem over:Rows.CircTellsSaid:=
 OpenClaim.holds_of_wide 4 Tryz.f4 rfl rfl rfl rfl rfl rfl rfl ⟨rfl,rfl,rfl,rfl,rfl⟩ rfl rfl rfl rfl rfl (by kernel_rfl) Tryz.func4 (by kernel_rfl)
  (of_decide_eq_true (by kernel_rfl)) (by unfold Func.isWrapper;first|(rw[if_pos (by decide+kernel)];kernel_rfl)|(rw[if_neg (by decide+kernel)];exact⟨rfl,rfl⟩))
  (fun os started H enc _=>lifted os started H enc)
theorem circTells_card:Rows.CircTellsCardSaid:=
 Claim7.holds_tied_plain_at .later [] [.data,.data] true (true,"3e53a24a714968f9c495a1079ae77b5d2b8cb268f587b81e936ef5d18ed27588") false
  over (fun _ h=>by cases h) (by kernel_rfl) (fun _ h=>by cases h) circTells_row_tie rfl ⟨rfl,rfl⟩ (by kernel_rfl) rfl
  (fun f fn hf gJ=>by
   obtain rfl:f=4:=(Option.some.inj ((show Tryz.prog.funcNamed "overtone/overtonelaw07.CircTells" =some 4 by kernel_rfl).symm.trans hf)).symm
   obtain rfl:fn=Tryz.f4:=(Option.some.inj (Tryz.func4.symm.trans gJ)).symm
   exact⟨by kernel_rfl,fun j t ae=>by
    have cF:Tryz.f4.params= #[43,5,24]:=by kernel_rfl
    rw[cF]at ae
    rcases j with _|_|_|j
    ·obtain rfl:t=43:=by simpa using ae.symm
     exact(show Tryz.prog.wantsStandIn 43=false by kernel_rfl)
    ·obtain rfl:t=5:=by simpa using ae.symm
     exact(show Tryz.prog.wantsStandIn 5=false by kernel_rfl)
    ·obtain rfl:t=24:=by simpa using ae.symm
     exact(show Tryz.prog.wantsStandIn 24=false by kernel_rfl)
    ·simp at ae⟩)
  (by kernel_rfl)
#print axioms circTells_card
end Go.Proofs.YtmdjhngbigfblaaGreatDoor
