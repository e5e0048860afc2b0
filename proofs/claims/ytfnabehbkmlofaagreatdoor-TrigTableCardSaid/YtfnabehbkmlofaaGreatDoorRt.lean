/- Lemmas for a claim: an abstract machine for the translated code, proved sound, and contracts of functions. By an AI agent. -/
import Derived.Test.YtfnabehbkmlofaaGreatDoorRd
import Derived.Test.YtfnabehbkmlofaaGreatDoorRe
import Derived.Test.YtfnabehbkmlofaaGreatDoorRf
import Derived.Test.YtfnabehbkmlofaaGreatDoorRh
import Derived.Test.YtfnabehbkmlofaaGreatDoorRi
set_option linter.all false
namespace RV.Dr
open Go Go.Proofs RV
set_option linter.unusedVariables false
set_option maxRecDepth 100000
set_option maxHeartbeats 4000000
theorem pm:Tryz.prog.follows .mixedOrders=true:=by kernel_rfl
def oB:Env:=Env.none
section
variable {B:Mem} (ai:sB B)
include ai
theorem lS:ah Tryz.prog B oB:=ah.none _ _
def oC:Env:=oB.add 194 yH
theorem r7:ah Tryz.prog B oC:=ah.add (lS ai) (EZ ai)
def oD:Env:=oC.add 171 ll
theorem xT:ah Tryz.prog B oD:=(r7 ai).p pm (FV _ rfl rfl)
def oE:Env:=oD.add 179 mc
theorem xU:ah Tryz.prog B oE:=(xT ai).p pm (FW _ ao)
def oF:Env:=oE.add 184 me
theorem xV:ah Tryz.prog B oF:=(xU ai).p pm (FY _ ao)
def oG:Env:=oF.add 183 sC
theorem xW:ah Tryz.prog B oG:=(xV ai).p pm (F0 _ ao)
def oH:Env:=oG.add 185 qa
theorem qF:ah Tryz.prog B oH:=(xW ai).p pm (FZ _ ao)
def oI:Env:=oH.add 151 ln
theorem qG:ah Tryz.prog B oI:=(qF ai).p pm (F2 _ ao ao ao ao)
def oJ:Env:=oI.add 152 mf
theorem xX:ah Tryz.prog B oJ:=(qG ai).p pm (F1 _)
def oK:Env:=oJ.add 134 h3
theorem xY:ah Tryz.prog B oK:=(xX ai).p pm (FB _)
def mN:Env:=oK.add 170 tV
theorem qt:ah Tryz.prog B mN:=(xY ai).p pm (FN _)
def mO:Env:=mN.add 159 sA
theorem v7:ah Tryz.prog B mO:=(qt ai).p pm (FO _)
def mP:Env:=mO.add 169 o1
theorem v8:ah Tryz.prog B mP:=(v7 ai).p pm (FP _ rfl rfl rfl rfl)
def mQ:Env:=mP.add 163 ki
theorem v9:ah Tryz.prog B mQ:=(v8 ai).p pm (Ft _)
def mR:Env:=mQ.add 173 sx
theorem wc:ah Tryz.prog B mR:=(v9 ai).o pm (FD _)
def mS:Env:=mR.add 143 il
theorem we:ah Tryz.prog B mS:=(wc ai).p pm (FJ _ rfl rfl rfl rfl)
def mT:Env:=mS.add 135 e9
theorem wh:ah Tryz.prog B mT:=(we ai).p pm (FQ _ rfl rfl rfl rfl rfl rfl)
def mU:Env:=mT.add 199 qd
theorem wi:ah Tryz.prog B mU:=(wh ai).p pm (F6 _ ao ao)
def mV:Env:=mU.add 82 hs
theorem wj:ah Tryz.prog B mV:=(wi ai).p pm (GW _ rfl rfl)
def mW:Env:=mV.add 23 sT
theorem wk:ah Tryz.prog B mW:=(wj ai).p pm (G5 _ rfl rfl)
def mX:Env:=mW.add 207 qe
theorem wm:ah Tryz.prog B mX:=(wk ai).p pm (F8 _ ao ao)
def mY:Env:=mX.add 208 tZ
theorem wo:ah Tryz.prog B mY:=(wm ai).p pm (Ge _)
def mZ:Env:=mY.add 87 sX
theorem wq:ah Tryz.prog B mZ:=(wo ai).p pm (Hi _)
def m0:Env:=mZ.add 85 mJ
theorem wu:ah Tryz.prog B m0:=(wq ai).p pm (GV _ rfl rfl)
def m1:Env:=m0.c9 162 jt
theorem wv:ah Tryz.prog B m1:=(wu ai).m pm fun a4 cs h=>Fp _ a4 cs h
def m2:Env:=m1.add 129 hp
theorem wx:ah Tryz.prog B m2:=(wv ai).p pm (FI _ rfl rfl rfl)
def m3:Env:=m2.add 138 vq
theorem wy:ah Tryz.prog B m3:=(wx ai).p pm (FT _ rfl rfl)
def m4:Env:=m3.add 192 sv
theorem wz:ah Tryz.prog B m4:=(wy ai).p pm (Fu _)
def m5:Env:=m4.c9 168 tP
theorem wA:ah Tryz.prog B m5:=(wz ai).m pm fun a4 cs h=>Fq _ rfl a4 cs h
def m6:Env:=m5.c9 172 tQ
theorem wB:ah Tryz.prog B m6:=(wA ai).m pm fun a4 cs h=>Fs _ rfl a4 cs h
def m7:Env:=m6.c9 167 oZ
theorem wC:ah Tryz.prog B m7:=(wB ai).m pm fun a4 cs h=>Fv _ rfl rfl rfl rfl rfl rfl a4 cs h
def m8:Env:=m7.add 133 ju
theorem wD:ah Tryz.prog B m8:=(wC ai).p pm (Fw _ rfl)
def m9:Env:=m8.add 191 sw
theorem wE:ah Tryz.prog B m9:=(wD ai).p pm (Fx _)
def na:Env:=m9.add 166 mb
theorem wF:ah Tryz.prog B na:=(wE ai).p pm (Fy _ rfl rfl)
def nb:Env:=na.add 131 iJ
theorem wG:ah Tryz.prog B nb:=(wF ai).p pm (Fz _ rfl rfl)
def nc:Env:=nb.add 139 iK
theorem wH:ah Tryz.prog B nc:=(wG ai).p pm (FA _ rfl rfl rfl)
def nd:Env:=nc.add 126 kM
theorem wI:ah Tryz.prog B nd:=(wH ai).p pm (FR _)
def nf:Env:=nd.add 84 kV
theorem wJ:ah Tryz.prog B nf:=(wI ai).p pm (GZ _ rfl rfl rfl rfl rfl rfl rfl rfl rfl rfl rfl rfl)
def ng:Env:=nf.add 76 pf
theorem wK:ah Tryz.prog B ng:=(wJ ai).p pm (GY _ rfl rfl)
def nh:Env:=ng.add 74 j0
theorem wL:ah Tryz.prog B nh:=(wK ai).p pm (G1 _ rfl rfl rfl rfl rfl rfl)
def ni:Env:=nh.add 88 qm
theorem wM:ah Tryz.prog B ni:=(wL ai).p pm (Hf _ rfl rfl)
def nj:Env:=ni.add 89 qn
theorem wN:ah Tryz.prog B nj:=(wM ai).p pm (Hh _ rfl rfl)
def nk:Env:=nj.add 132 o0
theorem wO:ah Tryz.prog B nk:=(wN ai).p pm (FC _ rfl rfl rfl)
def nm:Env:=nk.add 141 re
theorem nn:ah Tryz.prog B nm:=(wO ai).p pm (FU _ rfl rfl rfl rfl)
def np:Env:=nm.add 38 uF
theorem wP:ah Tryz.prog B np:=(nn ai).x pm ((nn ai).s pm (F4 _ rfl rfl)) (Hj _ rfl rfl rfl rfl rfl rfl)
def nq:Env:=np.add 32 jB
theorem wQ:ah Tryz.prog B nq:=(wP ai).p pm (G3 _ rfl rfl)
def nr:Env:=nq.add 36 lF
theorem wR:ah Tryz.prog B nr:=(wQ ai).p pm (G2 _ rfl rfl)
def ns:Env:=nr.add 86 vR
theorem wS:ah Tryz.prog B ns:=(wR ai).p pm (G7 _ rfl rfl)
def nt:Env:=ns.add 188 yM
theorem wT:ah Tryz.prog B nt:=ah.add (wS ai) (E2 B)
def nu:Env:=nt.add 161 vo
theorem wU:ah Tryz.prog B nu:=(wT ai).p pm (Gf _ rfl rfl)
def nv:Env:=nu.add 128 gN
theorem wV:ah Tryz.prog B nv:=(wU ai).p pm (FH _ rfl rfl)
def nw:Env:=nv.c9 142 o2
theorem wW:ah Tryz.prog B nw:=(wV ai).m pm fun a4 cs h=>F3 _ rfl rfl rfl rfl a4 cs h
def nx:Env:=nw.add 91 ph
theorem wX:ah Tryz.prog B nx:=(wW ai).p pm (G6 _ rfl rfl rfl rfl rfl rfl rfl rfl rfl)
def nz:Env:=nx.add 90 vS
theorem wY:ah Tryz.prog B nz:=(wX ai).p pm (G8 _ rfl rfl)
def nA:Env:=nz.c9 164 sy
theorem wZ:ah Tryz.prog B nA:=(wY ai).m pm fun a4 cs h=>FK _ rfl a4 cs h
def nB:Env:=nA.c9 202 tR
theorem w0:ah Tryz.prog B nB:=(wZ ai).m pm fun a4 cs h=>FE _ a4 cs h
def nC:Env:=nB.add 190 tS
theorem w1:ah Tryz.prog B nC:=(w0 ai).o pm (FF _ rfl rfl rfl)
def nD:Env:=nC.add 189 tU
theorem w2:ah Tryz.prog B nD:=(w1 ai).p pm (FG _ rfl rfl)
def nE:Env:=nD.c9 165 q9
theorem w3:ah Tryz.prog B nE:=(w2 ai).m pm fun a4 cs h=>FL _ rfl rfl rfl rfl rfl a4 cs h
def nF:Env:=nE.add 130 ra
theorem w4:ah Tryz.prog B nF:=(w3 ai).p pm (FM _ rfl rfl rfl rfl rfl rfl)
def nG:Env:=nF.add 79 uD
theorem w5:ah Tryz.prog B nG:=(w4 ai).p pm (G9 _ rfl rfl rfl rfl rfl rfl rfl rfl rfl rfl rfl rfl rfl rfl rfl rfl rfl rfl)
def nH:Env:=nG.add 78 vT
theorem w6:ah Tryz.prog B nH:=(w5 ai).p pm (Ha _ rfl rfl)
def nI:Env:=nH.add 77 mK
theorem w7:ah Tryz.prog B nI:=(w6 ai).p pm (Hb _ rfl rfl rfl rfl rfl rfl)
def nJ:Env:=nI.add 40 vU
theorem w8:ah Tryz.prog B nJ:=(w7 ai).p pm (Hd _ rfl rfl)
def nK:Env:=nJ.add 209 ri
theorem w9:ah Tryz.prog B nK:=(w8 ai).p pm (Ga _ ao ao ao ao)
def nL:Env:=nK.add 34 sV
theorem xa:ah Tryz.prog B nL:=(w9 ai).p pm (Hc _ rfl rfl)
def nM:Env:=nL.add 20 rR
theorem xb:ah Tryz.prog B nM:=(xa ai).p pm (He _ rfl rfl rfl rfl)
def nN:Env:=nM.add 212 rj
theorem nO:ah Tryz.prog B nN:=(xb ai).p pm (Gb _ ao ao)
def nP:Env:=nN.add 200 tY
theorem xc:ah Tryz.prog B nP:=(nO ai).x pm ((nO ai).s pm (Gg _ ao ao ao ao)) (Gh _ ao ao ao)
def nQ:Env:=nP.add 181 rk
theorem xd:ah Tryz.prog B nQ:=(xc ai).p pm (Gd _ ao ao ao ao)
def nR:Env:=nQ.add 198 tX
theorem xe:ah Tryz.prog B nR:=(xd ai).p pm (F7 _ ao ao ao ao ao)
def nS:Env:=nR.add 30 vQ
theorem xf:ah Tryz.prog B nS:=(xe ai).p pm (G4 _ rfl rfl rfl rfl)
def nT:Env:=nS.add 180 sD
theorem xg:ah Tryz.prog B nT:=(xf ai).p pm (F9 _ ao ao ao ao ao ao)
def nU:Env:=nT.add 148 rm
theorem xh:ah Tryz.prog B nU:=(xg ai).p pm (Gi _)
def nV:Env:=nU.add 150 rn
theorem xi:ah Tryz.prog B nV:=(xh ai).p pm (Gj _)
def nW:Env:=nV.add 147 lp
theorem xj:ah Tryz.prog B nW:=(xi ai).g pm (Gl _ ao ao ao ao ao)
def nX:Env:=nW.add 95 mL
theorem xk:ah Tryz.prog B nX:=(xj ai).p pm (Hp _ ao)
def nY:Env:=nX.add 97 mM
theorem xl:ah Tryz.prog B nY:=(xk ai).p pm (Hq _ ao)
def nZ:Env:=nY.add 206 uc
theorem n0:ah Tryz.prog B nZ:=(xl ai).p pm (Gr _)
def n1:Env:=nZ.add 197 mh
theorem xm:ah Tryz.prog B n1:=(n0 ai).x pm ((n0 ai).s pm (Gs _)) (Gt _ ao ao)
def n2:Env:=n1.add 176 rp
theorem xn:ah Tryz.prog B n2:=(xm ai).p pm (Gv _ ao ao ao ao ao ao)
def n3:Env:=n2.add 63 j2
theorem xo:ah Tryz.prog B n3:=(xn ai).p pm (Hr _)
def n4:Env:=n3.add 203 ua
theorem xp:ah Tryz.prog B n4:=(xo ai).p pm (Gn _ ao)
def n5:Env:=n4.add 178 qg
theorem xq:ah Tryz.prog B n5:=(xp ai).p pm (Gm _)
def n6:Env:=n5.add 204 ub
theorem xr:ah Tryz.prog B n6:=(xq ai).p pm (Gp _ ao)
def n7:Env:=n6.add 196 mg
theorem xt:ah Tryz.prog B n7:=(xr ai).p pm (Gq _ ao ao ao)
def n8:Env:=n7.add 175 mj
theorem xu:ah Tryz.prog B n8:=(xt ai).p pm (Gu _ ao)
def n9:Env:=n8.add 145 lq
theorem xv:ah Tryz.prog B n9:=(xu ai).p pm (Gx _ ao ao ao)
def oa:Env:=n9.add 177 rq
theorem xw:ah Tryz.prog B oa:=(xv ai).p pm (Gy _)
def ob:Env:=oa.add 146 ud
theorem xx:ah Tryz.prog B ob:=(xw ai).p pm (Gz _ ao ao)
def oc:Env:=ob.add 94 lJ
theorem xy:ah Tryz.prog B oc:=(xx ai).g pm (Ht _ ao ao ao ao)
def od:Env:=oc.add 44 dX
theorem xA:ah Tryz.prog B od:=(xy ai).p pm (Hu _ ao)
def oe:Env:=od.add 46 ed
theorem xB:ah Tryz.prog B oe:=(xA ai).p pm (Hv _ ao)
def og:Env:=oe.c9 100 kP
theorem xC:ah Tryz.prog B og:=(xB ai).m pm fun a4 cs h=>GC _ ao ao ao ao a4 cs h
def oh:Env:=og.c9 99 kX
theorem xD:ah Tryz.prog B oh:=(xC ai).m pm fun a4 cs h=>Hw _ rfl a4 cs h
def oi:Env:=oh.c9 98 kY
theorem xE:ah Tryz.prog B oi:=(xD ai).m pm fun a4 cs h=>Hx _ rfl a4 cs h
def oj:Env:=oi.add 102 ui
theorem xF:ah Tryz.prog B oj:=(xE ai).p pm (GD _)
def om:Env:=oj.add 103 uj
theorem xG:ah Tryz.prog B om:=(xF ai).p pm (GF _)
def oo:Env:=om.add 101 mm
theorem xH:ah Tryz.prog B oo:=(xG ai).p pm (GG _ ao ao)
def oq:Env:=oo.add 49 j3
theorem xI:ah Tryz.prog B oq:=(xH ai).p pm (Cb _ rfl ao)
def mn:Env:=oq.add 124 uh
theorem vr:ah Tryz.prog B mn:=(xI ai).p pm (GA _)
def mo:Env:=mn.add 70 rX
theorem vt:ah Tryz.prog B mo:=(vr ai).p pm (Hz _ ao)
def mq:Env:=mo.add 48 qv
theorem vu:ah Tryz.prog B mq:=(vt ai).p pm (HA _ ao)
def mr:Env:=mq.add 42 hP
theorem vv:ah Tryz.prog B mr:=(vu ai).p pm (HB _ ao ao ao ao)
def mv:Env:=mr.add 110 lk
theorem vw:ah Tryz.prog B mv:=(vv ai).p pm (JQ _)
def mw:Env:=mv.add 156 jc
theorem vx:ah Tryz.prog B mw:=(vw ai).p pm (JM _)
def mx:Env:=mw.add 157 p9
theorem vy:ah Tryz.prog B mx:=(vx ai).p pm (JN _)
def my:Env:=mx.add 144 jW
theorem vz:ah Tryz.prog B my:=(vy ai).p pm (JU _ rfl rfl rfl rfl)
def mz:Env:=my.add 109 fu
theorem vA:ah Tryz.prog B mz:=(vz ai).p pm (JV _ rfl rfl)
def mA:Env:=mz.add 53 ix
theorem vB:ah Tryz.prog B mA:=(vA ai).p pm (PX _ ao ao)
def o4:Env:=mA.add 24 hB
theorem vC:ah Tryz.prog B o4:=(vB ai).p pm (Vz _)
def rv:Env:=o4.add 64 DR
theorem zT:ah Tryz.prog B rv:=(vC ai).p pm (aw9 _ ao ao)
def ry:Env:=rv.add 59 iN
theorem zU:ah Tryz.prog B ry:=(zT ai).p pm (PA _ rfl rfl rfl rfl)
def rz:Env:=ry.add 62 lE
theorem zV:ah Tryz.prog B rz:=(zU ai).p pm (KU _)
def rA:Env:=rz.add 112 fB
theorem zW:ah Tryz.prog B rA:=(zV ai).p pm (JT _ rfl rfl)
def rB:Env:=rA.add 113 js
theorem zX:ah Tryz.prog B rB:=(zW ai).p pm (JO _ rfl rfl rfl rfl)
def rC:Env:=rB.add 114 fh
theorem zY:ah Tryz.prog B rC:=(zX ai).p pm (JP _)
def rD:Env:=rC.add 115 jV
theorem zZ:ah Tryz.prog B rD:=(zY ai).p pm (JR _ rfl rfl rfl rfl rfl rfl)
def rE:Env:=rD.add 56 gn
theorem z0:ah Tryz.prog B rE:=(zZ ai).p pm (K2 _ rfl rfl rfl rfl rfl rfl rfl rfl rfl rfl)
def rF:Env:=rE.add 80 ql
theorem z1:ah Tryz.prog B rF:=(z0 ai).p pm (KT _)
def rG:Env:=rF.add 57 gC
theorem z2:ah Tryz.prog B rG:=(z1 ai).p pm (K3 _ rfl rfl rfl rfl rfl rfl)
def rH:Env:=rG.add 28 Ad
theorem z3:ah Tryz.prog B rH:=(z2 ai).p pm (av7 _ ao)
def sE:Env:=rH.add 9 HV
theorem z4:ah Tryz.prog B sE:=(z3 ai).p pm (ayU _ ao ao ao ao ao ao ao ao)
theorem ve:l8 Tryz.prog B 9 HV:=(z4 ai).1 9 HV rfl
end
end RV.Dr
