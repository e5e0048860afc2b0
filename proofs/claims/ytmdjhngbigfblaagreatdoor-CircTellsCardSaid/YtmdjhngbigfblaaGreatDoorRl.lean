/- Lemmas for a claim: an abstract machine for the translated code, proved sound, and contracts of functions. By an AI agent. -/
import Derived.Test.YtmdjhngbigfblaaGreatDoorRe
import Derived.Test.YtmdjhngbigfblaaGreatDoorRf
import Derived.Test.YtmdjhngbigfblaaGreatDoorRc
import Derived.Test.YtmdjhngbigfblaaGreatDoorRg
import Derived.Test.YtmdjhngbigfblaaGreatDoorRh
import Derived.Test.YtmdjhngbigfblaaGreatDoorRj
import Derived.Test.YtmdjhngbigfblaaGreatDoorRk
set_option linter.all false
namespace RV.Dr
open Go Go.Proofs RV
set_option linter.unusedVariables false
set_option maxRecDepth 100000
set_option maxHeartbeats 4000000
theorem pm:Tryz.prog.follows .mixedOrders=true:=by kernel_rfl
def Zg:Env:=Env.none
section
variable {B:Mem} (aN:HH B)
include aN
theorem alj:aO Tryz.prog B Zg:=aO.none _ _
def Zh:Env:=Zg.add 142 x2
theorem Zi:aO Tryz.prog B Zh:=aO.add (alj aN) (ad9 aN)
def Zj:Env:=Zh.add 123 lI
theorem Zk:aO Tryz.prog B Zj:=aO.add (Zi aN) (bK pm (Zi aN) (fn:=Tryz.f123) (by kernel_rfl) (by decide) t123 (afy _ rfl rfl))
def Zl:Env:=Zj.add 111 mD
theorem wu:aO Tryz.prog B Zl:=aO.add (Zk aN) (bK pm (Zk aN) (fn:=Tryz.f111) (by kernel_rfl) (by decide) t111 (afA _ ⟨rfl,rfl,rfl⟩))
def Zm:Env:=Zl.add 149 mE
theorem Zn:aO Tryz.prog B Zm:=aO.add (wu aN) (bK pm (wu aN) (fn:=Tryz.f149) (by kernel_rfl) (by decide) aeT (afD _ ⟨rfl,rfl,rfl⟩))
def Zo:Env:=Zm.add 148 rn
theorem Zp:aO Tryz.prog B Zo:=aO.add (Zn aN) (bK pm (Zn aN) (fn:=Tryz.f148) (by kernel_rfl) (by decide) aeS (afF _ ⟨rfl,rfl,rfl⟩))
def Zq:Env:=Zo.add 150 oJ
theorem wj:aO Tryz.prog B Zq:=aO.add (Zp aN) (bK pm (Zp aN) (fn:=Tryz.f150) (by kernel_rfl) (by decide) aeU (afE _ ⟨rfl,rfl,rfl⟩))
def Zr:Env:=Zq.add 134 pS
theorem DB:aO Tryz.prog B Zr:=aO.add (wj aN) (bK pm (wj aN) (fn:=Tryz.f134) (by kernel_rfl) (by decide) t134 (afH _ ⟨rfl,rfl,rfl⟩ ⟨rfl,rfl,rfl⟩ ⟨rfl,rfl,rfl⟩ ⟨rfl,rfl,rfl⟩))
def Zs:Env:=Zr.add 86 iO
theorem Zt:aO Tryz.prog B Zs:=aO.add (DB aN) (bK pm (DB aN) (fn:=Tryz.f86) (by kernel_rfl) (by decide) t86 (ahK _))
def Zu:Env:=Zs.add 122 tj
theorem Zv:aO Tryz.prog B Zu:=aO.add (Zt aN) (bK pm (Zt aN) (fn:=Tryz.f122) (by kernel_rfl) (by decide) t122 (afs _))
def VJ:Env:=Zu.add 126 rl
theorem v5:aO Tryz.prog B VJ:=aO.add (Zv aN) (bK pm (Zv aN) (fn:=Tryz.f126) (by kernel_rfl) (by decide) t126 (aft _))
def VK:Env:=VJ.add 121 nO
theorem VL:aO Tryz.prog B VK:=aO.add (v5 aN) (bK pm (v5 aN) (fn:=Tryz.f121) (by kernel_rfl) (by decide) t121 (afu _ rfl rfl rfl rfl))
def VM:Env:=VK.add 117 kd
theorem VN:aO Tryz.prog B VM:=aO.add (VL aN) (bK pm (VL aN) (fn:=Tryz.f117) (by kernel_rfl) (by decide) t117 (ae8 _))
def VO:Env:=VM.add 116 rj
theorem VP:aO Tryz.prog B VO:=aO.add (VN aN) (P3 pm (VN aN) (fn:=Tryz.f116) (by kernel_rfl) (by decide) t116 (afi _))
def VQ:Env:=VO.add 84 jR
theorem VR:aO Tryz.prog B VQ:=aO.add (VP aN) (bK pm (VP aN) (fn:=Tryz.f84) (by kernel_rfl) (by decide) t84 (ahN _ rfl rfl rfl rfl))
def VS:Env:=VQ.add 87 eQ
theorem VT:aO Tryz.prog B VS:=aO.add (VR aN) (bK pm (VR aN) (fn:=Tryz.f87) (by kernel_rfl) (by decide) t87 (ahR _ rfl rfl rfl rfl rfl rfl))
def VU:Env:=VS.add 133 oL
theorem VV:aO Tryz.prog B VU:=aO.add (VT aN) (bK pm (VT aN) (fn:=Tryz.f133) (by kernel_rfl) (by decide) t133 (afS _ ⟨rfl,rfl,rfl⟩ ⟨rfl,rfl,rfl⟩))
def VW:Env:=VU.add 64 gT
theorem VX:aO Tryz.prog B VW:=aO.add (VV aN) (bK pm (VV aN) (fn:=Tryz.f64) (by kernel_rfl) (by decide) t64 (ahT _ rfl rfl))
def VY:Env:=VW.add 18 rV
theorem VZ:aO Tryz.prog B VY:=aO.add (VX aN) (bK pm (VX aN) (fn:=Tryz.f18) (by kernel_rfl) (by decide) t18 (aii _ rfl rfl))
def V0:Env:=VY.add 151 oM
theorem V1:aO Tryz.prog B V0:=aO.add (VZ aN) (bK pm (VZ aN) (fn:=Tryz.f151) (by kernel_rfl) (by decide) aeV (afU _ ⟨rfl,rfl,rfl⟩ ⟨rfl,rfl,rfl⟩))
def V2:Env:=V0.add 152 tr
theorem V3:aO Tryz.prog B V2:=aO.add (V1 aN) (bK pm (V1 aN) (fn:=Tryz.f152) (by kernel_rfl) (by decide) aeW (af6 _))
def V4:Env:=V2.add 70 rZ
theorem V5:aO Tryz.prog B V4:=aO.add (V3 aN) (bK pm (V3 aN) (fn:=Tryz.f70) (by kernel_rfl) (by decide) t70 (aiN _))
def V6:Env:=V4.add 67 mU
theorem V7:aO Tryz.prog B V6:=aO.add (V5 aN) (bK pm (V5 aN) (fn:=Tryz.f67) (by kernel_rfl) (by decide) t67 (ahS _ rfl rfl))
def V8:Env:=V6.ik 118 jl
theorem V9:aO Tryz.prog B V8:=aO.ik (V7 aN) (qX pm (V7 aN) (fn:=Tryz.f118) (by kernel_rfl) (by decide) t118 (fun bG cs h=>ae5 _ bG cs h))
def Wa:Env:=V8.add 100 kQ
theorem Wb:aO Tryz.prog B Wa:=aO.add (V9 aN) (bK pm (V9 aN) (fn:=Tryz.f100) (by kernel_rfl) (by decide) t100 (afo _ rfl rfl rfl))
def Wc:Env:=Wa.add 106 vt
theorem Wd:aO Tryz.prog B Wc:=aO.add (Wb aN) (bK pm (Wb aN) (fn:=Tryz.f106) (by kernel_rfl) (by decide) t106 (afw _ rfl rfl))
def Wf:Env:=Wc.add 140 rh
theorem Wg:aO Tryz.prog B Wf:=aO.add (Wd aN) (bK pm (Wd aN) (fn:=Tryz.f140) (by kernel_rfl) (by decide) t140 (ae9 _))
def Wh:Env:=Wf.ik 120 tc
theorem Wi:aO Tryz.prog B Wh:=aO.ik (Wg aN) (qX pm (Wg aN) (fn:=Tryz.f120) (by kernel_rfl) (by decide) t120 (fun bG cs h=>ae6 _ rfl bG cs h))
def Wj:Env:=Wh.ik 132 td
theorem Wk:aO Tryz.prog B Wj:=aO.ik (Wi aN) (qX pm (Wi aN) (fn:=Tryz.f132) (by kernel_rfl) (by decide) t132 (fun bG cs h=>ae7 _ rfl bG cs h))
def Wl:Env:=Wj.ik 119 nM
theorem Wm:aO Tryz.prog B Wl:=aO.ik (Wk aN) (qX pm (Wk aN) (fn:=Tryz.f119) (by kernel_rfl) (by decide) t119 (fun bG cs h=>afa _ rfl rfl rfl rfl rfl rfl bG cs h))
def Wn:Env:=Wl.add 85 jv
theorem Wo:aO Tryz.prog B Wn:=aO.add (Wm aN) (bK pm (Wm aN) (fn:=Tryz.f85) (by kernel_rfl) (by decide) t85 (ahJ _ rfl))
def Wp:Env:=Wn.add 147 ri
theorem Wq:aO Tryz.prog B Wp:=aO.add (Wo aN) (bK pm (Wo aN) (fn:=Tryz.f147) (by kernel_rfl) (by decide) aeR (afd _))
def Wr:Env:=Wp.add 131 mB
theorem Ws:aO Tryz.prog B Wr:=aO.add (Wq aN) (bK pm (Wq aN) (fn:=Tryz.f131) (by kernel_rfl) (by decide) t131 (afe _ rfl rfl))
def Wt:Env:=Wr.add 102 ke
theorem Wu:aO Tryz.prog B Wt:=aO.add (Ws aN) (bK pm (Ws aN) (fn:=Tryz.f102) (by kernel_rfl) (by decide) t102 (aff _ rfl rfl))
def Wv:Env:=Wt.add 107 kf
theorem Ww:aO Tryz.prog B Wv:=aO.add (Wu aN) (bK pm (Wu aN) (fn:=Tryz.f107) (by kernel_rfl) (by decide) t107 (afg _ rfl rfl rfl))
def Wx:Env:=Wv.add 98 k4
theorem Wy:aO Tryz.prog B Wx:=aO.add (Ww aN) (bK pm (Ww aN) (fn:=Tryz.f98) (by kernel_rfl) (by decide) t98 (ahU _))
def Wz:Env:=Wx.add 66 k5
theorem WA:aO Tryz.prog B Wz:=aO.add (Wy aN) (bK pm (Wy aN) (fn:=Tryz.f66) (by kernel_rfl) (by decide) t66 (ah5 _ rfl rfl rfl rfl rfl rfl rfl rfl rfl rfl rfl rfl))
def WB:Env:=Wz.add 58 nZ
theorem WC:aO Tryz.prog B WB:=aO.add (WA aN) (bK pm (WA aN) (fn:=Tryz.f58) (by kernel_rfl) (by decide) t58 (ah4 _ rfl rfl))
def WD:Env:=WB.add 57 jS
theorem WE:aO Tryz.prog B WD:=aO.add (WC aN) (bK pm (WC aN) (fn:=Tryz.f57) (by kernel_rfl) (by decide) t57 (ah7 _ rfl rfl rfl rfl rfl rfl))
def WG:Env:=WD.add 71 oX
theorem WH:aO Tryz.prog B WG:=aO.add (WE aN) (bK pm (WE aN) (fn:=Tryz.f71) (by kernel_rfl) (by decide) t71 (aiL _ rfl rfl))
def WI:Env:=WG.add 72 oY
theorem WJ:aO Tryz.prog B WI:=aO.add (WH aN) (bK pm (WH aN) (fn:=Tryz.f72) (by kernel_rfl) (by decide) t72 (aiM _ rfl rfl))
def WK:Env:=WI.add 103 nN
theorem WL:aO Tryz.prog B WK:=aO.add (WJ aN) (bK pm (WJ aN) (fn:=Tryz.f103) (by kernel_rfl) (by decide) t103 (afh _ rfl rfl rfl))
def WM:Env:=WK.add 109 pR
theorem KX:aO Tryz.prog B WM:=aO.add (WL aN) (bK pm (WL aN) (fn:=Tryz.f109) (by kernel_rfl) (by decide) t109 (afx _ rfl rfl rfl rfl))
theorem akk:vo Tryz.prog B B3:=fun f C e=>by
 unfold B3 at e
 split at e
 ·rename_i h
  subst h
  simp only[Option.some.injEq]at e
  subst e
  exact Q1 pm (KX aN) (fn:=Tryz.f108) (by kernel_rfl) (by decide) t108 (afM _ rfl rfl)
 ·cases e
def WN:Env:=WM.add 33 tS
theorem WO:aO Tryz.prog B WN:=aO.add (KX aN) (QZ pm (KX aN) (akk aN) (fn:=Tryz.f33) (by kernel_rfl) (by decide) t33 (aiV _ rfl rfl rfl rfl rfl rfl))
def WQ:Env:=WN.add 27 jw
theorem WR:aO Tryz.prog B WQ:=aO.add (WO aN) (bK pm (WO aN) (fn:=Tryz.f27) (by kernel_rfl) (by decide) t27 (aif _ rfl rfl))
def WS:Env:=WQ.add 31 lW
theorem WT:aO Tryz.prog B WS:=aO.add (WR aN) (bK pm (WR aN) (fn:=Tryz.f31) (by kernel_rfl) (by decide) t31 (aie _ rfl rfl))
def WU:Env:=WS.add 68 vR
theorem akl:aO Tryz.prog B WU:=aO.add (WT aN) (bK pm (WT aN) (fn:=Tryz.f68) (by kernel_rfl) (by decide) t68 (ait _ rfl rfl))
def WV:Env:=WU.add 144 x6
theorem WW:aO Tryz.prog B WV:=aO.add (akl aN) (aec B)
def WX:Env:=WV.add 128 vr
theorem WY:aO Tryz.prog B WX:=aO.add (WW aN) (bK pm (WW aN) (fn:=Tryz.f128) (by kernel_rfl) (by decide) t128 (af7 _ rfl rfl))
def WZ:Env:=WX.add 99 jQ
theorem W0:aO Tryz.prog B WZ:=aO.add (WY aN) (bK pm (WY aN) (fn:=Tryz.f99) (by kernel_rfl) (by decide) t99 (ahM _ rfl rfl))
def W1:Env:=WZ.ik 110 nP
theorem W2:aO Tryz.prog B W1:=aO.ik (W0 aN) (qX pm (W0 aN) (fn:=Tryz.f110) (by kernel_rfl) (by decide) t110 (fun bG cs h=>afK _ rfl rfl rfl rfl bG cs h))
def W3:Env:=W1.add 74 n0
theorem W4:aO Tryz.prog B W3:=aO.add (W2 aN) (bK pm (W2 aN) (fn:=Tryz.f74) (by kernel_rfl) (by decide) t74 (aim _ rfl rfl rfl rfl rfl rfl rfl rfl rfl))
def W5:Env:=W3.add 73 vS
theorem W6:aO Tryz.prog B W5:=aO.add (W4 aN) (bK pm (W4 aN) (fn:=Tryz.f73) (by kernel_rfl) (by decide) t73 (aiu _ rfl rfl))
def W7:Env:=W5.ik 129 rk
theorem W8:aO Tryz.prog B W7:=aO.ik (W6 aN) (qX pm (W6 aN) (fn:=Tryz.f129) (by kernel_rfl) (by decide) t129 (fun bG cs h=>afp _ rfl bG cs h))
def W9:Env:=W7.ik 154 tf
theorem Xa:aO Tryz.prog B W9:=aO.ik (W8 aN) (qX pm (W8 aN) (fn:=Tryz.f154) (by kernel_rfl) (by decide) aeY (fun bG cs h=>afj _ bG cs h))
def Xb:Env:=W9.add 146 tg
theorem Xc:aO Tryz.prog B Xb:=aO.add (Xa aN) (P3 pm (Xa aN) (fn:=Tryz.f146) (by kernel_rfl) (by decide) aeQ (afk _ rfl rfl rfl))
def Xd:Env:=Xb.add 145 th
theorem Xe:aO Tryz.prog B Xd:=aO.add (Xc aN) (bK pm (Xc aN) (fn:=Tryz.f145) (by kernel_rfl) (by decide) t145 (afm _ rfl rfl))
def Xf:Env:=Xd.ik 130 pP
theorem Xg:aO Tryz.prog B Xf:=aO.ik (Xe aN) (qX pm (Xe aN) (fn:=Tryz.f130) (by kernel_rfl) (by decide) t130 (fun bG cs h=>afq _ rfl rfl rfl rfl rfl bG cs h))
def Xh:Env:=Xf.add 101 pQ
theorem Xi:aO Tryz.prog B Xh:=aO.add (Xg aN) (bK pm (Xg aN) (fn:=Tryz.f101) (by kernel_rfl) (by decide) t101 (afr _ rfl rfl rfl rfl rfl rfl))
def Xj:Env:=Xh.add 61 tP
theorem Xk:aO Tryz.prog B Xj:=aO.add (Xi aN) (bK pm (Xi aN) (fn:=Tryz.f61) (by kernel_rfl) (by decide) t61 (aiv _ rfl rfl rfl rfl rfl rfl rfl rfl rfl rfl rfl rfl rfl rfl rfl rfl rfl rfl))
def Xl:Env:=Xj.add 60 vT
theorem Xm:aO Tryz.prog B Xl:=aO.add (Xk aN) (bK pm (Xk aN) (fn:=Tryz.f60) (by kernel_rfl) (by decide) t60 (aiC _ rfl rfl))
def Xn:Env:=Xl.add 59 mX
theorem Xo:aO Tryz.prog B Xn:=aO.add (Xm aN) (bK pm (Xm aN) (fn:=Tryz.f59) (by kernel_rfl) (by decide) t59 (aiE _ rfl rfl rfl rfl rfl rfl))
def Xp:Env:=Xn.add 35 vU
theorem Xq:aO Tryz.prog B Xp:=aO.add (Xo aN) (bK pm (Xo aN) (fn:=Tryz.f35) (by kernel_rfl) (by decide) t35 (aiJ _ rfl rfl))
def Xr:Env:=Xp.add 153 pW
theorem Xs:aO Tryz.prog B Xr:=aO.add (Xq aN) (bK pm (Xq aN) (fn:=Tryz.f153) (by kernel_rfl) (by decide) aeX (afW _ ⟨rfl,rfl,rfl⟩ ⟨rfl,rfl,rfl⟩ ⟨rfl,rfl,rfl⟩ ⟨rfl,rfl,rfl⟩))
def Xt:Env:=Xr.add 29 rX
theorem Xu:aO Tryz.prog B Xt:=aO.add (Xs aN) (bK pm (Xs aN) (fn:=Tryz.f29) (by kernel_rfl) (by decide) t29 (aiI _ rfl rfl))
def Xv:Env:=Xt.add 15 qf
theorem Xw:aO Tryz.prog B Xv:=aO.add (Xu aN) (bK pm (Xu aN) (fn:=Tryz.f15) (by kernel_rfl) (by decide) t15 (aiK _ rfl rfl rfl rfl))
def Xx:Env:=Xv.add 156 pX
theorem KY:aO Tryz.prog B Xx:=aO.add (Xw aN) (bK pm (Xw aN) (fn:=Tryz.f156) (by kernel_rfl) (by decide) ae0 (afX _ ⟨rfl,rfl,rfl⟩ ⟨rfl,rfl,rfl⟩))
theorem akm:vo Tryz.prog B Bj:=fun f C e=>by
 unfold Bj at e
 split at e
 ·rename_i h
  subst h
  simp only[Option.some.injEq]at e
  subst e
  exact Q1 pm (KY aN) (fn:=Tryz.f155) (by kernel_rfl) (by decide) aeZ (af9 _ ⟨rfl,rfl,rfl⟩ ⟨rfl,rfl,rfl⟩ ⟨rfl,rfl,rfl⟩ ⟨rfl,rfl,rfl⟩)
 ·cases e
def Xy:Env:=Xx.add 135 tp
theorem Xz:aO Tryz.prog B Xy:=aO.add (KY aN) (QZ pm (KY aN) (akm aN) (fn:=Tryz.f135) (by kernel_rfl) (by decide) t135 (aga _ ⟨rfl,rfl,rfl⟩ ⟨rfl,rfl,rfl⟩ ⟨rfl,rfl,rfl⟩))
def XA:Env:=Xy.add 136 pT
theorem XB:aO Tryz.prog B XA:=aO.add (Xz aN) (bK pm (Xz aN) (fn:=Tryz.f136) (by kernel_rfl) (by decide) t136 (afG _))
def XC:Env:=XA.add 113 pY
theorem XD:aO Tryz.prog B XC:=aO.add (XB aN) (bK pm (XB aN) (fn:=Tryz.f113) (by kernel_rfl) (by decide) t113 (afY _ ⟨rfl,rfl,rfl⟩ ⟨rfl,rfl,rfl⟩ ⟨rfl,rfl,rfl⟩ ⟨rfl,rfl,rfl⟩))
def XE:Env:=XC.add 44 iQ
theorem XF:aO Tryz.prog B XE:=aO.add (XD aN) (bK pm (XD aN) (fn:=Tryz.f44) (by kernel_rfl) (by decide) t44 (ajj _ ⟨rfl,rfl,rfl⟩ ⟨rfl,rfl,rfl⟩ ⟨rfl,rfl,rfl⟩ ⟨rfl,rfl,rfl⟩ ⟨rfl,rfl,rfl⟩))
def XG:Env:=XE.add 25 vQ
theorem XH:aO Tryz.prog B XG:=aO.add (XF aN) (bK pm (XF aN) (fn:=Tryz.f25) (by kernel_rfl) (by decide) t25 (aih _ rfl rfl rfl rfl))
def XI:Env:=XG.add 112 rp
theorem XJ:aO Tryz.prog B XI:=aO.add (XH aN) (bK pm (XH aN) (fn:=Tryz.f112) (by kernel_rfl) (by decide) t112 (afV _ ⟨rfl,rfl,rfl⟩ ⟨rfl,rfl,rfl⟩ ⟨rfl,rfl,rfl⟩ ⟨rfl,rfl,rfl⟩ ⟨rfl,rfl,rfl⟩ ⟨rfl,rfl,rfl⟩))
def XK:Env:=XI.add 79 qn
theorem XL:aO Tryz.prog B XK:=aO.add (XJ aN) (bK pm (XJ aN) (fn:=Tryz.f79) (by kernel_rfl) (by decide) t79 (ajx _))
def XM:Env:=XK.add 83 qo
theorem XN:aO Tryz.prog B XM:=aO.add (XL aN) (bK pm (XL aN) (fn:=Tryz.f83) (by kernel_rfl) (by decide) t83 (ajy _))
def XO:Env:=XM.add 78 l2
theorem XP:aO Tryz.prog B XO:=aO.add (XN aN) (adz pm (XN aN) (fn:=Tryz.f78) (by kernel_rfl) (by decide) t78 (ajM _ ⟨rfl,rfl,rfl⟩ ⟨rfl,rfl,rfl⟩ ⟨rfl,rfl,rfl⟩ ⟨rfl,rfl,rfl⟩ ⟨rfl,rfl,rfl⟩))
def XQ:Env:=XO.add 40 jx
theorem XR:aO Tryz.prog B XQ:=aO.add (XP aN) (bK pm (XP aN) (fn:=Tryz.f40) (by kernel_rfl) (by decide) t40 (ajP _ ⟨rfl,rfl,rfl⟩))
def XS:Env:=XQ.add 42 m4
theorem XT:aO Tryz.prog B XS:=aO.add (XR aN) (bK pm (XR aN) (fn:=Tryz.f42) (by kernel_rfl) (by decide) t42 (ajQ _ ⟨rfl,rfl,rfl⟩))
def XU:Env:=XS.add 124 il
theorem XV:aO Tryz.prog B XU:=aO.add (XT aN) (bK pm (XT aN) (fn:=Tryz.f124) (by kernel_rfl) (by decide) t124 (ae1 _))
def XW:Env:=XU.add 125 nK
theorem XX:aO Tryz.prog B XW:=aO.add (XV aN) (bK pm (XV aN) (fn:=Tryz.f125) (by kernel_rfl) (by decide) t125 (ae2 _))
def XY:Env:=XW.add 88 jt
theorem XZ:aO Tryz.prog B XY:=aO.add (XX aN) (bK pm (XX aN) (fn:=Tryz.f88) (by kernel_rfl) (by decide) t88 (ahy _ rfl rfl rfl rfl))
def X0:Env:=XY.add 76 dE
theorem X1:aO Tryz.prog B X0:=aO.add (XZ aN) (bK pm (XZ aN) (fn:=Tryz.f76) (by kernel_rfl) (by decide) t76 (ahB _ rfl rfl))
def X2:Env:=X0.add 90 tM
theorem X3:aO Tryz.prog B X2:=aO.add (X1 aN) (bK pm (X1 aN) (fn:=Tryz.f90) (by kernel_rfl) (by decide) t90 (ahr _))
def X4:Env:=X2.add 46 g8
theorem X5:aO Tryz.prog B X4:=aO.add (X3 aN) (bK pm (X3 aN) (fn:=Tryz.f46) (by kernel_rfl) (by decide) t46 (ahH _ rfl rfl rfl rfl))
def X6:Env:=X4.add 65 km
theorem X7:aO Tryz.prog B X6:=aO.add (X5 aN) (bK pm (X5 aN) (fn:=Tryz.f65) (by kernel_rfl) (by decide) t65 (ahp _))
def X8:Env:=X6.add 24 hN
theorem X9:aO Tryz.prog B X8:=aO.add (X7 aN) (bK pm (X7 aN) (fn:=Tryz.f24) (by kernel_rfl) (by decide) t24 (ahG _ rfl rfl))
def Ya:Env:=X8.add 19 gn
theorem Yb:aO Tryz.prog B Ya:=aO.add (X9 aN) (bK pm (X9 aN) (fn:=Tryz.f19) (by kernel_rfl) (by decide) t19 (aij _))
def Yc:Env:=Ya.add 17 lX
theorem Yd:aO Tryz.prog B Yc:=aO.add (Yb aN) (bK pm (Yb aN) (fn:=Tryz.f17) (by kernel_rfl) (by decide) t17 (aik _ rfl rfl))
def Ye:Env:=Yc.add 37 ud
theorem Yf:aO Tryz.prog B Ye:=aO.add (Yd aN) (bK pm (Yd aN) (fn:=Tryz.f37) (by kernel_rfl) (by decide) t37 (aj3 _ ⟨rfl,rfl,rfl⟩ ⟨rfl,rfl,rfl⟩ ⟨rfl,rfl,rfl⟩ ⟨rfl,rfl,rfl⟩ ⟨rfl,rfl,rfl⟩ ⟨rfl,rfl,rfl⟩ ⟨rfl,rfl,rfl⟩ ⟨rfl,rfl,rfl⟩))
def Yg:Env:=Ye.add 77 tX
theorem Yh:aO Tryz.prog B Yg:=aO.add (Yf aN) (bK pm (Yf aN) (fn:=Tryz.f77) (by kernel_rfl) (by decide) t77 (aji _))
def Yi:Env:=Yg.add 38 sa
theorem Yj:aO Tryz.prog B Yi:=aO.add (Yh aN) (bK pm (Yh aN) (fn:=Tryz.f38) (by kernel_rfl) (by decide) t38 (ajZ _ ⟨rfl,rfl,rfl⟩))
def Yk:Env:=Yi.add 96 nW
theorem Yl:aO Tryz.prog B Yk:=aO.add (Yj aN) (bK pm (Yj aN) (fn:=Tryz.f96) (by kernel_rfl) (by decide) t96 (ahw _))
def Ym:Env:=Yk.add 55 kp
theorem Yn:aO Tryz.prog B Ym:=aO.add (Yl aN) (bK pm (Yl aN) (fn:=Tryz.f55) (by kernel_rfl) (by decide) t55 (ail _ rfl rfl))
def Yo:Env:=Ym.add 14 r2
theorem Yp:aO Tryz.prog B Yo:=aO.add (Yn aN) (bK pm (Yn aN) (fn:=Tryz.f14) (by kernel_rfl) (by decide) t14 (ajn _ rfl rfl))
def Yq:Env:=Yo.add 39 uc
theorem Yr:aO Tryz.prog B Yq:=aO.add (Yp aN) (bK pm (Yp aN) (fn:=Tryz.f39) (by kernel_rfl) (by decide) t39 (aj0 _))
def Ys:Env:=Yq.add 80 k6
theorem Yt:aO Tryz.prog B Ys:=aO.add (Yr aN) (bK pm (Yr aN) (fn:=Tryz.f80) (by kernel_rfl) (by decide) t80 (ajd _))
def Yu:Env:=Ys.add 104 jk
theorem Yv:aO Tryz.prog B Yu:=aO.add (Yt aN) (bK pm (Yt aN) (fn:=Tryz.f104) (by kernel_rfl) (by decide) t104 (ae4 _))
def Yw:Env:=Yu.add 91 h3
theorem Yx:aO Tryz.prog B Yw:=aO.add (Yv aN) (bK pm (Yv aN) (fn:=Tryz.f91) (by kernel_rfl) (by decide) t91 (ahx _ rfl rfl))
def Yy:Env:=Yw.add 89 hx
theorem Yz:aO Tryz.prog B Yy:=aO.add (Yx aN) (bK pm (Yx aN) (fn:=Tryz.f89) (by kernel_rfl) (by decide) t89 (aho _ rfl rfl rfl rfl))
def YA:Env:=Yy.add 94 kZ
theorem YB:aO Tryz.prog B YA:=aO.add (Yz aN) (bK pm (Yz aN) (fn:=Tryz.f94) (by kernel_rfl) (by decide) t94 (aht _ rfl rfl))
def Tf:Env:=YA.add 92 fh
theorem Tg:aO Tryz.prog B Tf:=aO.add (YB aN) (bK pm (YB aN) (fn:=Tryz.f92) (by kernel_rfl) (by decide) t92 (ahq _))
def Ti:Env:=Tf.add 105 pU
theorem Tj:aO Tryz.prog B Ti:=aO.add (Tg aN) (bK pm (Tg aN) (fn:=Tryz.f105) (by kernel_rfl) (by decide) t105 (afP _ ⟨rfl,rfl,rfl⟩ ⟨rfl,rfl,rfl⟩ ⟨rfl,rfl,rfl⟩ ⟨rfl,rfl,rfl⟩ ⟨rfl,rfl,rfl⟩))
def Tk:Env:=Ti.add 75 m0
theorem Tl:aO Tryz.prog B Tk:=aO.add (Tj aN) (bK pm (Tj aN) (fn:=Tryz.f75) (by kernel_rfl) (by decide) t75 (ai0 _ ⟨rfl,rfl,rfl⟩ ⟨rfl,rfl,rfl⟩ ⟨rfl,rfl,rfl⟩ ⟨rfl,rfl,rfl⟩))
def Tm:Env:=Tk.add 63 r1
theorem Tn:aO Tryz.prog B Tm:=aO.add (Tl aN) (bK pm (Tl aN) (fn:=Tryz.f63) (by kernel_rfl) (by decide) t63 (aja _ ⟨rfl,rfl,rfl⟩ ⟨rfl,rfl,rfl⟩ ⟨rfl,rfl,rfl⟩ ⟨rfl,rfl,rfl⟩ ⟨rfl,rfl,rfl⟩ ⟨rfl,rfl,rfl⟩ ⟨rfl,rfl,rfl⟩ ⟨rfl,rfl,rfl⟩))
def To:Env:=Tm.add 62 nX
theorem Tp:aO Tryz.prog B To:=aO.add (Tn aN) (bK pm (Tn aN) (fn:=Tryz.f62) (by kernel_rfl) (by decide) t62 (ahz _))
def Tq:Env:=To.add 16 qj
theorem Tr:aO Tryz.prog B Tq:=aO.add (Tp aN) (bK pm (Tp aN) (fn:=Tryz.f16) (by kernel_rfl) (by decide) t16 (ajb _ ⟨rfl,rfl,rfl⟩ ⟨rfl,rfl,rfl⟩))
def Ts:Env:=Tq.add 69 vN
theorem Tt:aO Tryz.prog B Ts:=aO.add (Tr aN) (bK pm (Tr aN) (fn:=Tryz.f69) (by kernel_rfl) (by decide) t69 (ahD _ rfl rfl))
def Tv:Env:=Ts.add 30 r0
theorem Tw:aO Tryz.prog B Tv:=aO.add (Tt aN) (bK pm (Tt aN) (fn:=Tryz.f30) (by kernel_rfl) (by decide) t30 (ai3 _ ⟨rfl,rfl,rfl⟩))
def Tx:Env:=Tv.add 93 lV
theorem Ty:aO Tryz.prog B Tx:=aO.add (Tw aN) (bK pm (Tw aN) (fn:=Tryz.f93) (by kernel_rfl) (by decide) t93 (ahs _ rfl rfl rfl rfl rfl rfl))
def Tz:Env:=Tx.add 50 jT
theorem TA:aO Tryz.prog B Tz:=aO.add (Ty aN) (bK pm (Ty aN) (fn:=Tryz.f50) (by kernel_rfl) (by decide) t50 (UW _ rfl rfl rfl rfl rfl rfl rfl rfl rfl rfl))
def TB:Env:=Tz.add 32 iP
theorem TC:aO Tryz.prog B TB:=aO.add (TA aN) (bK pm (TA aN) (fn:=Tryz.f32) (by kernel_rfl) (by decide) t32 (ai2 _ ⟨rfl,rfl,rfl⟩))
def TD:Env:=TB.add 48 h4
theorem TE:aO Tryz.prog B TD:=aO.add (TC aN) (bK pm (TC aN) (fn:=Tryz.f48) (by kernel_rfl) (by decide) t48 (ahA _))
def TF:Env:=TD.add 28 iw
theorem TG:aO Tryz.prog B TF:=aO.add (TE aN) (bK pm (TE aN) (fn:=Tryz.f28) (by kernel_rfl) (by decide) t28 (ai1 _ ⟨rfl,rfl,rfl⟩))
def TH:Env:=TF.add 115 p2
theorem TI:aO Tryz.prog B TH:=aO.add (TG aN) (bK pm (TG aN) (fn:=Tryz.f115) (by kernel_rfl) (by decide) t115 (agf _ ⟨rfl,rfl,rfl⟩ ⟨rfl,rfl,rfl⟩ ⟨rfl,rfl,rfl⟩ ⟨rfl,rfl,rfl⟩ ⟨rfl,rfl,rfl⟩ ⟨rfl,rfl,rfl⟩))
def TJ:Env:=TH.add 95 qk
theorem TK:aO Tryz.prog B TJ:=aO.add (TI aN) (bK pm (TI aN) (fn:=Tryz.f95) (by kernel_rfl) (by decide) t95 (ajf _ ⟨rfl,rfl,rfl⟩))
def TL:Env:=TJ.add 137 pV
theorem TM:aO Tryz.prog B TL:=aO.add (TK aN) (bK pm (TK aN) (fn:=Tryz.f137) (by kernel_rfl) (by decide) t137 (afQ _ ⟨rfl,rfl,rfl⟩ ⟨rfl,rfl,rfl⟩))
def TN:Env:=TL.add 51 rO
theorem TO:aO Tryz.prog B TN:=aO.add (TM aN) (bK pm (TM aN) (fn:=Tryz.f51) (by kernel_rfl) (by decide) t51 (ahE _ rfl rfl rfl rfl))
def TP:Env:=TN.add 47 mV
theorem TQ:aO Tryz.prog B TP:=aO.add (TO aN) (bK pm (TO aN) (fn:=Tryz.f47) (by kernel_rfl) (by decide) t47 (aia _ rfl rfl rfl rfl rfl rfl))
def TR:Env:=TP.add 34 qh
theorem TS:aO Tryz.prog B TR:=aO.add (TQ aN) (bK pm (TQ aN) (fn:=Tryz.f34) (by kernel_rfl) (by decide) t34 (ai6 _ ⟨rfl,rfl,rfl⟩ ⟨rfl,rfl,rfl⟩ ⟨rfl,rfl,rfl⟩))
def TT:Env:=TR.add 36 n2
theorem TU:aO Tryz.prog B TT:=aO.add (TS aN) (bK pm (TS aN) (fn:=Tryz.f36) (by kernel_rfl) (by decide) t36 (ai5 _ ⟨rfl,rfl,rfl⟩))
def TV:Env:=TT.add 138 tq
theorem TW:aO Tryz.prog B TV:=aO.add (TU aN) (bK pm (TU aN) (fn:=Tryz.f138) (by kernel_rfl) (by decide) t138 (agh _ ⟨rfl,rfl,rfl⟩ ⟨rfl,rfl,rfl⟩ ⟨rfl,rfl,rfl⟩ ⟨rfl,rfl,rfl⟩ ⟨rfl,rfl,rfl⟩ ⟨rfl,rfl,rfl⟩))
def TX:Env:=TV.add 139 tn
theorem TY:aO Tryz.prog B TX:=aO.add (TW aN) (bK pm (TW aN) (fn:=Tryz.f139) (by kernel_rfl) (by decide) t139 (afR _))
def T0:Env:=TX.add 114 pZ
theorem T1:aO Tryz.prog B T0:=aO.add (TY aN) (bK pm (TY aN) (fn:=Tryz.f114) (by kernel_rfl) (by decide) t114 (af2 _ ⟨rfl,rfl,rfl⟩ ⟨rfl,rfl,rfl⟩ ⟨rfl,rfl,rfl⟩ ⟨rfl,rfl,rfl⟩))
def T2:Env:=T0.add 81 l3
theorem T3:aO Tryz.prog B T2:=aO.add (T1 aN) (bK pm (T1 aN) (fn:=Tryz.f81) (by kernel_rfl) (by decide) t81 (ajV _ ⟨rfl,rfl,rfl⟩ ⟨rfl,rfl,rfl⟩ ⟨rfl,rfl,rfl⟩))
def T4:Env:=T2.add 45 jV
theorem T5:aO Tryz.prog B T4:=aO.add (T3 aN) (bK pm (T3 aN) (fn:=Tryz.f45) (by kernel_rfl) (by decide) t45 (aju _ ⟨rfl,rfl,rfl⟩ ⟨rfl,rfl,rfl⟩ ⟨rfl,rfl,rfl⟩))
def T6:Env:=T4.add 82 l0
theorem T7:aO Tryz.prog B T6:=aO.add (T5 aN) (bK pm (T5 aN) (fn:=Tryz.f82) (by kernel_rfl) (by decide) t82 (ajv _ ⟨rfl,rfl,rfl⟩ ⟨rfl,rfl,rfl⟩ ⟨rfl,rfl,rfl⟩ ⟨rfl,rfl,rfl⟩ ⟨rfl,rfl,rfl⟩))
def T8:Env:=T6.add 41 qp
theorem T9:aO Tryz.prog B T8:=aO.add (T7 aN) (bK pm (T7 aN) (fn:=Tryz.f41) (by kernel_rfl) (by decide) t41 (ajX _ ⟨rfl,rfl,rfl⟩ ⟨rfl,rfl,rfl⟩ ⟨rfl,rfl,rfl⟩))
def Ua:Env:=T8.add 43 qq
theorem Ub:aO Tryz.prog B Ua:=aO.add (T9 aN) (bK pm (T9 aN) (fn:=Tryz.f43) (by kernel_rfl) (by decide) t43 (ajY _ ⟨rfl,rfl,rfl⟩ ⟨rfl,rfl,rfl⟩ ⟨rfl,rfl,rfl⟩))
def agr:Env:=Ua.add 4 wB
theorem ags:aO Tryz.prog B agr:=aO.add (Ub aN) (bK pm (Ub aN) (fn:=Tryz.f4) (by kernel_rfl) (by decide) t4 (si _ ⟨rfl,rfl,rfl⟩ ⟨rfl,rfl,rfl⟩ ⟨rfl,rfl,rfl⟩ ⟨rfl,rfl,rfl⟩ ⟨rfl,rfl,rfl⟩ ⟨rfl,rfl,rfl⟩ ⟨rfl,rfl,rfl⟩ ⟨rfl,rfl,rfl⟩ ⟨rfl,rfl,rfl⟩ ⟨rfl,rfl,rfl⟩ ⟨rfl,rfl,rfl⟩ ⟨rfl,rfl,rfl⟩))
theorem aej:my Tryz.prog B 4 wB:=(ags aN).1 4 wB rfl
end
end RV.Dr
