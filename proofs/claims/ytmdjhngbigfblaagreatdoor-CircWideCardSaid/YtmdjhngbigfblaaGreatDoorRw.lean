/- PROVED: CircWide, its tied card: for every input the law returns true. -/
import Derived.Test.YtmdjhngbigfblaaGreatDoorRv
import Derived.Test.YtmdjhngbigfblaaGreatDoorRk
import Derived.Test.YtmdjhngbigfblaaGreatDoorRows
import Derived.Test.YtmdjhngbigfblaaGreatDoorCards
import Derived.Test.YtmdjhngbigfblaaGreatDoorTie
import Derived.ProofKit
import Derived.WideKeyArgs
import Derived.Carry
import Derived.LaidLaws
import Derived.LaidHandle
import Derived.Lay
import Derived.Handed
import Derived.JoinedOf
import Derived.MakeChecks
import Derived.FnData
import Derived.SevenTiedAt
set_option linter.all false
namespace Go.Proofs.YtmdjhngbigfblaaGreatDoor
open Go Go.ChangeShapes Go.WideShapes Go.ChangeAt Go.RowKit
set_option maxRecDepth 100000
set_option linter.unusedVariables false
theorem vg:ownKnob Tryz.prog.godebug=none:=by kernel_rfl
theorem jA:laidOutB Tryz.prog=true:=by kernel_rfl
theorem j9:RV.fieldsOf Tryz.prog 43=some [(3,0),(3,1)]:=by kernel_rfl
theorem tr:Tryz.prog.cellsOf 43=2:=by kernel_rfl
theorem sa:Tryz.prog.underlying 4=some .bool:=by kernel_rfl
theorem A4:Tryz.prog.cellsOf 4=1:=by kernel_rfl
theorem pk:Tryz.prog.underlying 3=some (.int .i64):=by kernel_rfl
theorem pn:Tryz.prog.cellsOf 3=1:=by kernel_rfl
theorem ib:Tryz.prog.underlying 5=some (.int .u8):=by kernel_rfl
theorem vh:Tryz.prog.cellsOf 5=1:=by kernel_rfl
theorem vA:Tryz.prog.underlying 127=some (.array 64 5):=by kernel_rfl
theorem k9:Tryz.prog.globalNamed "math/bits.deBruijn64tab" =some 1:=by kernel_rfl
theorem vi:(Tryz.prog.globals[1]?).map (·.type)=some 127:=by kernel_rfl
def ll:List Int:=[0,1,56,2,57,49,28,3,61,58,42,50,38,29,17,4,62,47,59,36,45,43,51,22,53,39,33,30,24,18,12,5,63,55,48,27,60,41,37,16,46,35,44,21,52,32,23,11,54,26,40,15,34,20,31,10,25,14,19,9,13,8,7,6]
theorem uM:∀t:Nat,t<64→ll.getD (RV.Dr.iC t) 0=(t:Int):=by decide+kernel
theorem uN {W:World} (dO:laidMetH Tryz.prog [("math/bits.deBruijn32tab",Rows.laid_math_bits_deBruijn32tab),("math/bits.deBruijn64tab",Rows.laid_math_bits_deBruijn64tab)] W):RV.Dr.sE W.cell? :=by
 rw[MakeChecks.laidMetH_plain _ _ _ (by rfl)]at dO
 obtain⟨ps,aC,_⟩:=dO
 obtain⟨_,_,_,_,_,_,_,_,_,_,aC,_⟩:=aC
 obtain⟨g,t,cs,fuel,p,q,bh,ah,au,aL,_,_⟩:=aC
 have a4:g=1:=Option.some.inj (bh.symm.trans k9)
 subst a4
 have bc:t=127:=Option.some.inj (ah.symm.trans vi)
 subst bc
 have fB:=RV.CL (xs:=ll) vA ib vh rfl aL
 intro k af
 have h1:=World.var?_cell k9 au (RV.Dr.iC k)
 have h2:=fB (RV.Dr.iC k) (RV.Dr.A9 k)
 rw[uM k af,Array.getElem?_toList]at h2
 exact h1.trans h2
noncomputable def k2 (os:Os):World:=World.laidAll Tryz.prog os Rows.circWideRow.laid
theorem uI (os:Os) (args:Array Value):laidMetH Tryz.prog Rows.circWideRow.laid ((k2 os).forCall (fun _ _=>0) ⟨#[],args,[]⟩).memory:=by
 rw[MakeChecks.laidMetH_plain _ _ _ (by rfl)]
 exact laidMet_laidAll args (by kernel_rfl) (by kernel_rfl)
theorem lifted (os:Os) (started:os.Started) (H:Type) (enc:TypeId×Value→H):
 ReturnsInHanded {} Tryz.checked os 5 .any (fun w args=>(Rows.circWideSpec.pre enc Tryz.prog Tryz.f5 [] false w args∧laidMetH Tryz.prog Rows.circWideRow.laid w)∧sizedMet enc Tryz.prog Tryz.f5 (OpenSpec.ofChange Rows.circWideSpec) false w args)
  (Rows.circWideSpec.post enc Tryz.prog Tryz.f5 false true false false):=by
 refine returnsInHanded_of_change_and (C:=Tryz.checked) (X:=fun w _=>laidMetH Tryz.prog Rows.circWideRow.laid w) (fun _ _ _ dW h=>h.of_heap dW) vg started (by kernel_rfl) Tryz.func5
  (ChangeSpec.witness_at (enc:=enc) (C:=Tryz.checked) (os:=os) (X:=fun w _=>laidMetH Tryz.prog Rows.circWideRow.laid w) false (k2 os) #[.agg #[.int .i64 0,.int .i64 0],.int .u8 0] 8 (World.laidAll_os _ _ _) (by kernel_rfl) (by kernel_rfl) (by kernel_rfl) (by kernel_rfl) (by kernel_rfl) (uI os _)) ?_
 intro W base args ds gs before hval0 hW _ _ dO _
 have hval:∀(j:Nat) t v,Tryz.f5.params[j]? =some t→args[j]? =some v→Value.okWide Tryz.prog W .any base t v:=hval0
 have hW':=hW
 obtain⟨p,q,hA0,hV,rfl,hfz,hnd⟩:=hW
 have hA:DataW.TrodAll enc Tryz.prog W 0 (fun _=>true) true Tryz.f5.params.toList args.toList ds p:=hA0
 have cm:Tryz.f5.params= #[43,5]:=by kernel_rfl
 rw[cm]at hA hval
 obtain⟨v0,JA,d0,JB,p0,J0,Hy,rfl,rfl,h0,hI⟩:=trodAll_cons hA
 obtain⟨v1,JC,d1,JD,p1,dw,rfl,rfl,rfl,h1,bX⟩:=trodAll_cons hI
 obtain⟨rfl,rfl,rfl⟩:=trodAll_nil bX
 obtain rfl:args= #[v0,v1]:=by cases args;simp_all
 obtain⟨rfl,rfl⟩:=trodVars_none hV
 clear hA0 hval0
 have cf:=uN dO
 obtain⟨dj,rfl,e8⟩:=RV.xN j9 (hval 0 43 v0 rfl rfl)
 have hO:=h0
 obtain⟨J1,hO⟩:=hO
 obtain⟨oG,oH,vZ⟩:=RV.Bh j9 pk pn tr hO
 obtain⟨eJ,rfl⟩:=okWide_int ib (hval 1 5 v1 rfl rfl)
 have cC:=h1
 obtain⟨iR,cC⟩:=cC
 obtain⟨tg,g0,_,gg⟩:=DataW.trod_int ib cC
 obtain rfl:eJ=tg:=by simpa [Value.cells]using g0
 have et:0≤eJ∧eJ<256:=by
  have:=gg
  simp only[Lit.wf,Bool.and_eq_true,decide_eq_true_eq]at this
  have b1:IntKind.u8.min=0:=by decide
  have ep:IntKind.u8.max=255:=by decide
  omega
 have fQ:RV.bV W.cell? [.agg [.int .i64 oG,.int .i64 oH],.int .u8 eJ] (#[Value.agg dj,Value.int .u8 eJ]:Array Value).toList:=by
  simp only[RV.bV,RV.bA]
  exact⟨_,_,rfl,⟨dj,rfl,vZ⟩,⟨_,_,rfl,rfl,rfl⟩⟩
 have bw:∀x∈p0++(p1++[]),x.block<W.heap.size:=fun x aj=>hW'.lt x (List.mem_append_left _ aj)
 have vj:=(RV.Dr.vf cf).2 _ ⟨oG,oH,eJ,rfl,et.1,et.2⟩ W W.cell? #[.agg dj,.int .u8 eJ] (RV.b7.refl _) (RV.b7.refl _) fQ
 refine vj.mono fun e W' he=> ?_
 obtain⟨v,rfl,aw,po⟩:=he
 have aC:=po.1 rfl
 have aC:v= .bool true:=aC
 subst aC
 have a4:Rows.circWideSpec.fn H ([d0,d1]++[])= { results:=[.lit (.bool true)],args:=[d0,d1] } :=by simp[Rows.circWideSpec]
 refine⟨_,rfl,_,_,_,[],p0++(p1++[]),[],hW',?_,?_,?_,aw.frame _,fun h=>by cases h⟩
 ·rw[a4];exact trodAll_mk1 (shut_bool sa true)
 ·rw[a4,cm]
  exact trodAll_cons_mk (Below.trod jA (by kernel_rfl) (of_decide_eq_true (by kernel_rfl)) h0 aw fun x aj=>bw x (List.mem_append_left _ aj))
   (trodAll_cons_mk (Below.trod jA (by kernel_rfl) (of_decide_eq_true (by kernel_rfl)) h1 aw fun x aj=>bw x (List.mem_append_right _ (List.mem_append_left _ aj)))
   trodAll_mk0)
 ·rw[a4];rfl
theorem over:Rows.CircWideSaid:=
 OpenClaim.holds_of_wide 5 Tryz.f5 rfl rfl rfl rfl rfl rfl rfl ⟨rfl,rfl,rfl,rfl,rfl⟩ rfl rfl rfl rfl rfl (by kernel_rfl) Tryz.func5 (by kernel_rfl)
  (of_decide_eq_true (by kernel_rfl)) (by unfold Func.isWrapper;first|(rw[if_pos (by decide+kernel)];kernel_rfl)|(rw[if_neg (by decide+kernel)];exact⟨rfl,rfl⟩))
  (fun os started H enc _=>lifted os started H enc)
theorem circWide_card:Rows.CircWideCardSaid:=
 Claim7.holds_tied_plain_at .later [] [.data,.data] true (true,"3e53a24a714968f9c495a1079ae77b5d2b8cb268f587b81e936ef5d18ed27588") false
  over (fun _ h=>by cases h) (by kernel_rfl) (fun _ h=>by cases h) circWide_row_tie rfl ⟨rfl,rfl⟩ (by kernel_rfl) rfl
  (fun f fn hf fR=>by
   obtain rfl:f=5:=(Option.some.inj ((show Tryz.prog.funcNamed "overtone/overtonelaw07.CircWide" =some 5 by kernel_rfl).symm.trans hf)).symm
   obtain rfl:fn=Tryz.f5:=(Option.some.inj (Tryz.func5.symm.trans fR)).symm
   exact⟨by kernel_rfl,fun j t ah=>by
    have cm:Tryz.f5.params= #[43,5]:=by kernel_rfl
    rw[cm]at ah
    rcases j with _|_|j
    ·obtain rfl:t=43:=by simpa using ah.symm
     exact(show Tryz.prog.wantsStandIn 43=false by kernel_rfl)
    ·obtain rfl:t=5:=by simpa using ah.symm
     exact(show Tryz.prog.wantsStandIn 5=false by kernel_rfl)
    ·simp at ah⟩)
  (by kernel_rfl)
#print axioms circWide_card
end Go.Proofs.YtmdjhngbigfblaaGreatDoor
