/- Lemmas for a claim: an abstract machine for the translated code, proved sound, and contracts of functions. By an AI agent. -/
import Derived.Test.YtmdjhngbigfblaaGreatDoorRe
import Derived.Test.YtmdjhngbigfblaaGreatDoorRf
import Derived.Test.YtmdjhngbigfblaaGreatDoorRc
import Derived.Test.YtmdjhngbigfblaaGreatDoorRg
import Derived.Test.YtmdjhngbigfblaaGreatDoorRi
set_option linter.all false
namespace RV.Dr
open Go Go.Proofs RV
set_option linter.unusedVariables false
set_option maxRecDepth 100000
set_option maxHeartbeats 4000000
theorem pm : Tryz.prog.follows .mixedOrders = true := by kernel_rfl
def G0 : Env := Env.none
section
variable {B : Mem} (hB : TabB B)
include hB
theorem E0 : EnvOk Tryz.prog B G0 := EnvOk.none _ _
def G1 : Env := G0.add 124 C124
theorem E1 : EnvOk Tryz.prog B G1 := EnvOk.add (E0 hB) (fn_ok pm (E0 hB) (fn := Tryz.f124) (by kernel_rfl) (by decide) t124 (p124 _))
def G2 : Env := G1.add 125 C125
theorem E2 : EnvOk Tryz.prog B G2 := EnvOk.add (E1 hB) (fn_ok pm (E1 hB) (fn := Tryz.f125) (by kernel_rfl) (by decide) t125 (p125 _))
def G3 : Env := G2.add 88 C88
theorem E3 : EnvOk Tryz.prog B G3 := EnvOk.add (E2 hB) (fn_ok pm (E2 hB) (fn := Tryz.f88) (by kernel_rfl) (by decide) t88 (p88 _ rfl rfl rfl rfl))
def G4 : Env := G3.add 76 C76
theorem E4 : EnvOk Tryz.prog B G4 := EnvOk.add (E3 hB) (fn_ok pm (E3 hB) (fn := Tryz.f76) (by kernel_rfl) (by decide) t76 (p76 _ rfl rfl))
def G5 : Env := G4.add 90 C90
theorem E5 : EnvOk Tryz.prog B G5 := EnvOk.add (E4 hB) (fn_ok pm (E4 hB) (fn := Tryz.f90) (by kernel_rfl) (by decide) t90 (p90 _))
def G6 : Env := G5.add 46 C46
theorem E6 : EnvOk Tryz.prog B G6 := EnvOk.add (E5 hB) (fn_ok pm (E5 hB) (fn := Tryz.f46) (by kernel_rfl) (by decide) t46 (p46 _ rfl rfl rfl rfl))
def G7 : Env := G6.add 122 C122
theorem E7 : EnvOk Tryz.prog B G7 := EnvOk.add (E6 hB) (fn_ok pm (E6 hB) (fn := Tryz.f122) (by kernel_rfl) (by decide) t122 (p122 _))
def G8 : Env := G7.add 126 C126
theorem E8 : EnvOk Tryz.prog B G8 := EnvOk.add (E7 hB) (fn_ok pm (E7 hB) (fn := Tryz.f126) (by kernel_rfl) (by decide) t126 (p126 _))
def G9 : Env := G8.add 121 C121
theorem E9 : EnvOk Tryz.prog B G9 := EnvOk.add (E8 hB) (fn_ok pm (E8 hB) (fn := Tryz.f121) (by kernel_rfl) (by decide) t121 (p121 _ rfl rfl rfl rfl))
def G10 : Env := G9.add 142 C142
theorem E10 : EnvOk Tryz.prog B G10 := EnvOk.add (E9 hB) (ok142 hB)
def G11 : Env := G10.add 123 C123
theorem E11 : EnvOk Tryz.prog B G11 := EnvOk.add (E10 hB) (fn_ok pm (E10 hB) (fn := Tryz.f123) (by kernel_rfl) (by decide) t123 (p123 _ rfl rfl))
def G12 : Env := G11.add 117 C117
theorem E12 : EnvOk Tryz.prog B G12 := EnvOk.add (E11 hB) (fn_ok pm (E11 hB) (fn := Tryz.f117) (by kernel_rfl) (by decide) t117 (p117 _))
def G13 : Env := G12.add 116 C116
theorem E13 : EnvOk Tryz.prog B G13 := EnvOk.add (E12 hB) (fn_oko pm (E12 hB) (fn := Tryz.f116) (by kernel_rfl) (by decide) t116 (p116 _))
def G14 : Env := G13.add 84 C84
theorem E14 : EnvOk Tryz.prog B G14 := EnvOk.add (E13 hB) (fn_ok pm (E13 hB) (fn := Tryz.f84) (by kernel_rfl) (by decide) t84 (p84 _ rfl rfl rfl rfl))
def G15 : Env := G14.add 87 C87
theorem E15 : EnvOk Tryz.prog B G15 := EnvOk.add (E14 hB) (fn_ok pm (E14 hB) (fn := Tryz.f87) (by kernel_rfl) (by decide) t87 (p87 _ rfl rfl rfl rfl rfl rfl))
def G16 : Env := G15.add 64 C64
theorem E16 : EnvOk Tryz.prog B G16 := EnvOk.add (E15 hB) (fn_ok pm (E15 hB) (fn := Tryz.f64) (by kernel_rfl) (by decide) t64 (p64 _ rfl rfl))
def G17 : Env := G16.add 18 C18
theorem E17 : EnvOk Tryz.prog B G17 := EnvOk.add (E16 hB) (fn_ok pm (E16 hB) (fn := Tryz.f18) (by kernel_rfl) (by decide) t18 (p18 _ rfl rfl))
def G18 : Env := G17.add 68 C68
theorem E18 : EnvOk Tryz.prog B G18 := EnvOk.add (E17 hB) (fn_ok pm (E17 hB) (fn := Tryz.f68) (by kernel_rfl) (by decide) t68 (p68 _ rfl rfl))
def G19 : Env := G18.add 144 C144
theorem E19 : EnvOk Tryz.prog B G19 := EnvOk.add (E18 hB) (ok144 B)
def G20 : Env := G19.add 128 C128
theorem E20 : EnvOk Tryz.prog B G20 := EnvOk.add (E19 hB) (fn_ok pm (E19 hB) (fn := Tryz.f128) (by kernel_rfl) (by decide) t128 (p128 _ rfl rfl))
def G21 : Env := G20.add 99 C99
theorem E21 : EnvOk Tryz.prog B G21 := EnvOk.add (E20 hB) (fn_ok pm (E20 hB) (fn := Tryz.f99) (by kernel_rfl) (by decide) t99 (p99 _ rfl rfl))
def G22 : Env := G21.add 86 C86
theorem E22 : EnvOk Tryz.prog B G22 := EnvOk.add (E21 hB) (fn_ok pm (E21 hB) (fn := Tryz.f86) (by kernel_rfl) (by decide) t86 (p86 _))
def G23 : Env := G22.add 140 C140
theorem E23 : EnvOk Tryz.prog B G23 := EnvOk.add (E22 hB) (fn_ok pm (E22 hB) (fn := Tryz.f140) (by kernel_rfl) (by decide) t140 (p140 _))
def G24 : Env := G23.addm 118 C118
theorem E24 : EnvOk Tryz.prog B G24 := EnvOk.addm (E23 hB) (fn_okm pm (E23 hB) (fn := Tryz.f118) (by kernel_rfl) (by decide) t118 (fun az cs h => p118 _ az cs h))
def G25 : Env := G24.addm 120 C120
theorem E25 : EnvOk Tryz.prog B G25 := EnvOk.addm (E24 hB) (fn_okm pm (E24 hB) (fn := Tryz.f120) (by kernel_rfl) (by decide) t120 (fun az cs h => p120 _ rfl az cs h))
def G26 : Env := G25.addm 132 C132
theorem E26 : EnvOk Tryz.prog B G26 := EnvOk.addm (E25 hB) (fn_okm pm (E25 hB) (fn := Tryz.f132) (by kernel_rfl) (by decide) t132 (fun az cs h => p132 _ rfl az cs h))
def G27 : Env := G26.addm 119 C119
theorem E27 : EnvOk Tryz.prog B G27 := EnvOk.addm (E26 hB) (fn_okm pm (E26 hB) (fn := Tryz.f119) (by kernel_rfl) (by decide) t119 (fun az cs h => p119 _ rfl rfl rfl rfl rfl rfl az cs h))
def G28 : Env := G27.add 85 C85
theorem E28 : EnvOk Tryz.prog B G28 := EnvOk.add (E27 hB) (fn_ok pm (E27 hB) (fn := Tryz.f85) (by kernel_rfl) (by decide) t85 (p85 _ rfl))
def G29 : Env := G28.addm 110 C110
theorem E29 : EnvOk Tryz.prog B G29 := EnvOk.addm (E28 hB) (fn_okm pm (E28 hB) (fn := Tryz.f110) (by kernel_rfl) (by decide) t110 (fun az cs h => p110 _ rfl rfl rfl rfl az cs h))
def G30 : Env := G29.add 74 C74
theorem E30 : EnvOk Tryz.prog B G30 := EnvOk.add (E29 hB) (fn_ok pm (E29 hB) (fn := Tryz.f74) (by kernel_rfl) (by decide) t74 (p74 _ rfl rfl rfl rfl rfl rfl rfl rfl rfl))
def G31 : Env := G30.add 73 C73
theorem E31 : EnvOk Tryz.prog B G31 := EnvOk.add (E30 hB) (fn_ok pm (E30 hB) (fn := Tryz.f73) (by kernel_rfl) (by decide) t73 (p73 _ rfl rfl))
def G32 : Env := G31.add 100 C100
theorem E32 : EnvOk Tryz.prog B G32 := EnvOk.add (E31 hB) (fn_ok pm (E31 hB) (fn := Tryz.f100) (by kernel_rfl) (by decide) t100 (p100 _ rfl rfl rfl))
def G33 : Env := G32.addm 129 C129
theorem E33 : EnvOk Tryz.prog B G33 := EnvOk.addm (E32 hB) (fn_okm pm (E32 hB) (fn := Tryz.f129) (by kernel_rfl) (by decide) t129 (fun az cs h => p129 _ rfl az cs h))
def G34 : Env := G33.addm 154 C154
theorem E34 : EnvOk Tryz.prog B G34 := EnvOk.addm (E33 hB) (fn_okm pm (E33 hB) (fn := Tryz.f154) (by kernel_rfl) (by decide) t154 (fun az cs h => p154 _ az cs h))
def G35 : Env := G34.add 146 C146
theorem E35 : EnvOk Tryz.prog B G35 := EnvOk.add (E34 hB) (fn_oko pm (E34 hB) (fn := Tryz.f146) (by kernel_rfl) (by decide) t146 (p146 _ rfl rfl rfl))
def G36 : Env := G35.add 147 C147
theorem E36 : EnvOk Tryz.prog B G36 := EnvOk.add (E35 hB) (fn_ok pm (E35 hB) (fn := Tryz.f147) (by kernel_rfl) (by decide) t147 (p147 _))
def G37 : Env := G36.add 131 C131
theorem E37 : EnvOk Tryz.prog B G37 := EnvOk.add (E36 hB) (fn_ok pm (E36 hB) (fn := Tryz.f131) (by kernel_rfl) (by decide) t131 (p131 _ rfl rfl))
def G38 : Env := G37.add 145 C145
theorem E38 : EnvOk Tryz.prog B G38 := EnvOk.add (E37 hB) (fn_ok pm (E37 hB) (fn := Tryz.f145) (by kernel_rfl) (by decide) t145 (p145 _ rfl rfl))
def G39 : Env := G38.addm 130 C130
theorem E39 : EnvOk Tryz.prog B G39 := EnvOk.addm (E38 hB) (fn_okm pm (E38 hB) (fn := Tryz.f130) (by kernel_rfl) (by decide) t130 (fun az cs h => p130 _ rfl rfl rfl rfl rfl az cs h))
def G40 : Env := G39.add 101 C101
theorem E40 : EnvOk Tryz.prog B G40 := EnvOk.add (E39 hB) (fn_ok pm (E39 hB) (fn := Tryz.f101) (by kernel_rfl) (by decide) t101 (p101 _ rfl rfl rfl rfl rfl rfl))
def G41 : Env := G40.add 102 C102
theorem E41 : EnvOk Tryz.prog B G41 := EnvOk.add (E40 hB) (fn_ok pm (E40 hB) (fn := Tryz.f102) (by kernel_rfl) (by decide) t102 (p102 _ rfl rfl))
def G42 : Env := G41.add 103 C103
theorem E42 : EnvOk Tryz.prog B G42 := EnvOk.add (E41 hB) (fn_ok pm (E41 hB) (fn := Tryz.f103) (by kernel_rfl) (by decide) t103 (p103 _ rfl rfl rfl))
def G43 : Env := G42.add 61 C61
theorem E43 : EnvOk Tryz.prog B G43 := EnvOk.add (E42 hB) (fn_ok pm (E42 hB) (fn := Tryz.f61) (by kernel_rfl) (by decide) t61 (p61 _ rfl rfl rfl rfl rfl rfl rfl rfl rfl rfl rfl rfl rfl rfl rfl rfl rfl rfl))
def G44 : Env := G43.add 60 C60
theorem E44 : EnvOk Tryz.prog B G44 := EnvOk.add (E43 hB) (fn_ok pm (E43 hB) (fn := Tryz.f60) (by kernel_rfl) (by decide) t60 (p60 _ rfl rfl))
def G45 : Env := G44.add 59 C59
theorem E45 : EnvOk Tryz.prog B G45 := EnvOk.add (E44 hB) (fn_ok pm (E44 hB) (fn := Tryz.f59) (by kernel_rfl) (by decide) t59 (p59 _ rfl rfl rfl rfl rfl rfl))
def G46 : Env := G45.add 98 C98
theorem E46 : EnvOk Tryz.prog B G46 := EnvOk.add (E45 hB) (fn_ok pm (E45 hB) (fn := Tryz.f98) (by kernel_rfl) (by decide) t98 (p98 _))
def G47 : Env := G46.add 58 C58
theorem E47 : EnvOk Tryz.prog B G47 := EnvOk.add (E46 hB) (fn_ok pm (E46 hB) (fn := Tryz.f58) (by kernel_rfl) (by decide) t58 (p58 _ rfl rfl))
def G48 : Env := G47.add 15 C15
theorem E48 : EnvOk Tryz.prog B G48 := EnvOk.add (E47 hB) (fn_ok pm (E47 hB) (fn := Tryz.f15) (by kernel_rfl) (by decide) t15 (p15 _ rfl rfl rfl rfl))
def G49 : Env := G48.add 70 C70
theorem E49 : EnvOk Tryz.prog B G49 := EnvOk.add (E48 hB) (fn_ok pm (E48 hB) (fn := Tryz.f70) (by kernel_rfl) (by decide) t70 (p70 _))
def G50 : Env := G49.add 67 C67
theorem E50 : EnvOk Tryz.prog B G50 := EnvOk.add (E49 hB) (fn_ok pm (E49 hB) (fn := Tryz.f67) (by kernel_rfl) (by decide) t67 (p67 _ rfl rfl))
def G51 : Env := G50.add 106 C106
theorem E51 : EnvOk Tryz.prog B G51 := EnvOk.add (E50 hB) (fn_ok pm (E50 hB) (fn := Tryz.f106) (by kernel_rfl) (by decide) t106 (p106 _ rfl rfl))
def G52 : Env := G51.add 107 C107
theorem E52 : EnvOk Tryz.prog B G52 := EnvOk.add (E51 hB) (fn_ok pm (E51 hB) (fn := Tryz.f107) (by kernel_rfl) (by decide) t107 (p107 _ rfl rfl rfl))
def G53 : Env := G52.add 66 C66
theorem E53 : EnvOk Tryz.prog B G53 := EnvOk.add (E52 hB) (fn_ok pm (E52 hB) (fn := Tryz.f66) (by kernel_rfl) (by decide) t66 (p66 _ rfl rfl rfl rfl rfl rfl rfl rfl rfl rfl rfl rfl))
def G54 : Env := G53.add 57 C57
theorem E54 : EnvOk Tryz.prog B G54 := EnvOk.add (E53 hB) (fn_ok pm (E53 hB) (fn := Tryz.f57) (by kernel_rfl) (by decide) t57 (p57 _ rfl rfl rfl rfl rfl rfl))
def G55 : Env := G54.add 71 C71
theorem E55 : EnvOk Tryz.prog B G55 := EnvOk.add (E54 hB) (fn_ok pm (E54 hB) (fn := Tryz.f71) (by kernel_rfl) (by decide) t71 (p71 _ rfl rfl))
def G56 : Env := G55.add 72 C72
theorem E56 : EnvOk Tryz.prog B G56 := EnvOk.add (E55 hB) (fn_ok pm (E55 hB) (fn := Tryz.f72) (by kernel_rfl) (by decide) t72 (p72 _ rfl rfl))
def G57 : Env := G56.add 109 C109
theorem E57 : EnvOk Tryz.prog B G57 := EnvOk.add (E56 hB) (fn_ok pm (E56 hB) (fn := Tryz.f109) (by kernel_rfl) (by decide) t109 (p109 _ rfl rfl rfl rfl))
theorem Z58 : SqOk Tryz.prog B Sq33 := fun f C e => by
  unfold Sq33 at e
  split at e
  · rename_i h
    subst h
    simp only [Option.some.injEq] at e
    subst e
    exact fn_oks pm (E57 hB) (fn := Tryz.f108) (by kernel_rfl) (by decide) t108 (q108 _ rfl rfl)
  · cases e
def G58 : Env := G57.add 33 C33
theorem E58 : EnvOk Tryz.prog B G58 := EnvOk.add (E57 hB) (fn_okx pm (E57 hB) (Z58 hB) (fn := Tryz.f33) (by kernel_rfl) (by decide) t33 (p33 _ rfl rfl rfl rfl rfl rfl))
def G59 : Env := G58.add 65 C65
theorem E59 : EnvOk Tryz.prog B G59 := EnvOk.add (E58 hB) (fn_ok pm (E58 hB) (fn := Tryz.f65) (by kernel_rfl) (by decide) t65 (p65 _))
def G60 : Env := G59.add 24 C24
theorem E60 : EnvOk Tryz.prog B G60 := EnvOk.add (E59 hB) (fn_ok pm (E59 hB) (fn := Tryz.f24) (by kernel_rfl) (by decide) t24 (p24 _ rfl rfl))
def G61 : Env := G60.add 17 C17
theorem E61 : EnvOk Tryz.prog B G61 := EnvOk.add (E60 hB) (fn_ok pm (E60 hB) (fn := Tryz.f17) (by kernel_rfl) (by decide) t17 (p17 _ rfl rfl))
def G62 : Env := G61.add 31 C31
theorem E62 : EnvOk Tryz.prog B G62 := EnvOk.add (E61 hB) (fn_ok pm (E61 hB) (fn := Tryz.f31) (by kernel_rfl) (by decide) t31 (p31 _ rfl rfl))
def G63 : Env := G62.add 27 C27
theorem E63 : EnvOk Tryz.prog B G63 := EnvOk.add (E62 hB) (fn_ok pm (E62 hB) (fn := Tryz.f27) (by kernel_rfl) (by decide) t27 (p27 _ rfl rfl))
def G64 : Env := G63.add 22 C22
theorem E64 : EnvOk Tryz.prog B G64 := EnvOk.add (E63 hB) (fn_ok pm (E63 hB) (fn := Tryz.f22) (by kernel_rfl) (by decide) t22 (p22 _ rfl rfl))
def G65 : Env := G64.add 20 C20
theorem E65 : EnvOk Tryz.prog B G65 := EnvOk.add (E64 hB) (fn_ok pm (E64 hB) (fn := Tryz.f20) (by kernel_rfl) (by decide) t20 (p20 _ rfl rfl))
def G66 : Env := G65.add 25 C25
theorem E66 : EnvOk Tryz.prog B G66 := EnvOk.add (E65 hB) (fn_ok pm (E65 hB) (fn := Tryz.f25) (by kernel_rfl) (by decide) t25 (p25 _ rfl rfl rfl rfl))
def G67 : Env := G66.add 127 C127
theorem E67 : EnvOk Tryz.prog B G67 := EnvOk.add (E66 hB) (fn_ok pm (E66 hB) (fn := Tryz.f127) (by kernel_rfl) (by decide) t127 (p127 _ rfl rfl))
def G68 : Env := G67.add 97 C97
theorem E68 : EnvOk Tryz.prog B G68 := EnvOk.add (E67 hB) (fn_ok pm (E67 hB) (fn := Tryz.f97) (by kernel_rfl) (by decide) t97 (p97 _ rfl rfl))
def G69 : Env := G68.add 56 C56
theorem E69 : EnvOk Tryz.prog B G69 := EnvOk.add (E68 hB) (fn_ok pm (E68 hB) (fn := Tryz.f56) (by kernel_rfl) (by decide) t56 (p56 _ rfl rfl rfl rfl))
def G70 : Env := G69.add 11 C11
theorem E70 : EnvOk Tryz.prog B G70 := EnvOk.add (E69 hB) (fn_ok pm (E69 hB) (fn := Tryz.f11) (by kernel_rfl) (by decide) t11 (p11 _ rfl rfl rfl rfl))
def G71 : Env := G70.add 29 C29
theorem E71 : EnvOk Tryz.prog B G71 := EnvOk.add (E70 hB) (fn_ok pm (E70 hB) (fn := Tryz.f29) (by kernel_rfl) (by decide) t29 (p29 _ rfl rfl))
def G72 : Env := G71.add 35 C35
theorem E72 : EnvOk Tryz.prog B G72 := EnvOk.add (E71 hB) (fn_ok pm (E71 hB) (fn := Tryz.f35) (by kernel_rfl) (by decide) t35 (p35 _ rfl rfl))
def G73 : Env := G72.add 10 C10
theorem E73 : EnvOk Tryz.prog B G73 := EnvOk.add (E72 hB) (fn_ok pm (E72 hB) (fn := Tryz.f10) (by kernel_rfl) (by decide) t10 (p10 _ rfl rfl rfl rfl rfl rfl rfl rfl rfl rfl rfl rfl rfl rfl rfl rfl rfl rfl rfl rfl rfl rfl rfl rfl rfl rfl rfl rfl))
def G74 : Env := G73.add 96 C96
theorem E74 : EnvOk Tryz.prog B G74 := EnvOk.add (E73 hB) (fn_ok pm (E73 hB) (fn := Tryz.f96) (by kernel_rfl) (by decide) t96 (p96 _))
def G75 : Env := G74.add 55 C55
theorem E75 : EnvOk Tryz.prog B G75 := EnvOk.add (E74 hB) (fn_ok pm (E74 hB) (fn := Tryz.f55) (by kernel_rfl) (by decide) t55 (p55 _ rfl rfl))
def G76 : Env := G75.add 48 C48
theorem E76 : EnvOk Tryz.prog B G76 := EnvOk.add (E75 hB) (fn_ok pm (E75 hB) (fn := Tryz.f48) (by kernel_rfl) (by decide) t48 (p48 _))
def G77 : Env := G76.add 91 C91
theorem E77 : EnvOk Tryz.prog B G77 := EnvOk.add (E76 hB) (fn_ok pm (E76 hB) (fn := Tryz.f91) (by kernel_rfl) (by decide) t91 (p91 _ rfl rfl))
def G78 : Env := G77.add 89 C89
theorem E78 : EnvOk Tryz.prog B G78 := EnvOk.add (E77 hB) (fn_ok pm (E77 hB) (fn := Tryz.f89) (by kernel_rfl) (by decide) t89 (p89 _ rfl rfl rfl rfl))
def G79 : Env := G78.add 92 C92
theorem E79 : EnvOk Tryz.prog B G79 := EnvOk.add (E78 hB) (fn_ok pm (E78 hB) (fn := Tryz.f92) (by kernel_rfl) (by decide) t92 (p92 _))
def G80 : Env := G79.add 93 C93
theorem E80 : EnvOk Tryz.prog B G80 := EnvOk.add (E79 hB) (fn_ok pm (E79 hB) (fn := Tryz.f93) (by kernel_rfl) (by decide) t93 (p93 _ rfl rfl rfl rfl rfl rfl))
def G81 : Env := G80.add 50 C50
theorem E81 : EnvOk Tryz.prog B G81 := EnvOk.add (E80 hB) (fn_ok pm (E80 hB) (fn := Tryz.f50) (by kernel_rfl) (by decide) t50 (p50 _ rfl rfl rfl rfl rfl rfl rfl rfl rfl rfl))
def G82 : Env := G81.add 62 C62
theorem E82 : EnvOk Tryz.prog B G82 := EnvOk.add (E81 hB) (fn_ok pm (E81 hB) (fn := Tryz.f62) (by kernel_rfl) (by decide) t62 (p62 _))
def G83 : Env := G82.add 47 C47
theorem E83 : EnvOk Tryz.prog B G83 := EnvOk.add (E82 hB) (fn_ok pm (E82 hB) (fn := Tryz.f47) (by kernel_rfl) (by decide) t47 (p47 _ rfl rfl rfl rfl rfl rfl))
def G84 : Env := G83.add 12 C12
theorem E84 : EnvOk Tryz.prog B G84 := EnvOk.add (E83 hB) (fn_ok pm (E83 hB) (fn := Tryz.f12) (by kernel_rfl) (by decide) t12 (p12 _ rfl rfl rfl rfl))
def G85 : Env := G84.add 14 C14
theorem E85 : EnvOk Tryz.prog B G85 := EnvOk.add (E84 hB) (fn_ok pm (E84 hB) (fn := Tryz.f14) (by kernel_rfl) (by decide) t14 (p14 _ rfl rfl))
def G86 : Env := G85.add 13 C13
theorem E86 : EnvOk Tryz.prog B G86 := EnvOk.add (E85 hB) (fn_ok pm (E85 hB) (fn := Tryz.f13) (by kernel_rfl) (by decide) t13 (p13 _ rfl rfl rfl rfl))
def G87 : Env := G86.add 104 C104
theorem E87 : EnvOk Tryz.prog B G87 := EnvOk.add (E86 hB) (fn_ok pm (E86 hB) (fn := Tryz.f104) (by kernel_rfl) (by decide) t104 (p104 _))
def G88 : Env := G87.add 94 C94
theorem E88 : EnvOk Tryz.prog B G88 := EnvOk.add (E87 hB) (fn_ok pm (E87 hB) (fn := Tryz.f94) (by kernel_rfl) (by decide) t94 (p94 _ rfl rfl))
def G89 : Env := G88.add 105 C105
theorem E89 : EnvOk Tryz.prog B G89 := EnvOk.add (E88 hB) (fn_ok pm (E88 hB) (fn := Tryz.f105) (by kernel_rfl) (by decide) t105 (p105 _ ⟨rfl, rfl, rfl⟩ ⟨rfl, rfl, rfl⟩ ⟨rfl, rfl, rfl⟩ ⟨rfl, rfl, rfl⟩ ⟨rfl, rfl, rfl⟩))
def G90 : Env := G89.add 75 C75
theorem E90 : EnvOk Tryz.prog B G90 := EnvOk.add (E89 hB) (fn_ok pm (E89 hB) (fn := Tryz.f75) (by kernel_rfl) (by decide) t75 (p75 _ ⟨rfl, rfl, rfl⟩ ⟨rfl, rfl, rfl⟩ ⟨rfl, rfl, rfl⟩ ⟨rfl, rfl, rfl⟩))
def G91 : Env := G90.add 63 C63
theorem E91 : EnvOk Tryz.prog B G91 := EnvOk.add (E90 hB) (fn_ok pm (E90 hB) (fn := Tryz.f63) (by kernel_rfl) (by decide) t63 (p63 _ ⟨rfl, rfl, rfl⟩ ⟨rfl, rfl, rfl⟩ ⟨rfl, rfl, rfl⟩ ⟨rfl, rfl, rfl⟩ ⟨rfl, rfl, rfl⟩ ⟨rfl, rfl, rfl⟩ ⟨rfl, rfl, rfl⟩ ⟨rfl, rfl, rfl⟩))
def G92 : Env := G91.add 16 C16
theorem E92 : EnvOk Tryz.prog B G92 := EnvOk.add (E91 hB) (fn_ok pm (E91 hB) (fn := Tryz.f16) (by kernel_rfl) (by decide) t16 (p16 _ ⟨rfl, rfl, rfl⟩ ⟨rfl, rfl, rfl⟩))
def G93 : Env := G92.add 19 C19
theorem E93 : EnvOk Tryz.prog B G93 := EnvOk.add (E92 hB) (fn_ok pm (E92 hB) (fn := Tryz.f19) (by kernel_rfl) (by decide) t19 (p19 _))
def G94 : Env := G93.add 21 C21
theorem E94 : EnvOk Tryz.prog B G94 := EnvOk.add (E93 hB) (fn_ok pm (E93 hB) (fn := Tryz.f21) (by kernel_rfl) (by decide) t21 (p21 _ ⟨rfl, rfl, rfl⟩))
def G95 : Env := G94.add 23 C23
theorem E95 : EnvOk Tryz.prog B G95 := EnvOk.add (E94 hB) (fn_ok pm (E94 hB) (fn := Tryz.f23) (by kernel_rfl) (by decide) t23 (p23 _ ⟨rfl, rfl, rfl⟩))
def G96 : Env := G95.add 26 C26
theorem E96 : EnvOk Tryz.prog B G96 := EnvOk.add (E95 hB) (fn_ok pm (E95 hB) (fn := Tryz.f26) (by kernel_rfl) (by decide) t26 (p26 _ rfl rfl rfl rfl))
def G97 : Env := G96.add 28 C28
theorem E97 : EnvOk Tryz.prog B G97 := EnvOk.add (E96 hB) (fn_ok pm (E96 hB) (fn := Tryz.f28) (by kernel_rfl) (by decide) t28 (p28 _ ⟨rfl, rfl, rfl⟩))
def G98 : Env := G97.add 69 C69
theorem E98 : EnvOk Tryz.prog B G98 := EnvOk.add (E97 hB) (fn_ok pm (E97 hB) (fn := Tryz.f69) (by kernel_rfl) (by decide) t69 (p69 _ rfl rfl))
def G99 : Env := G98.add 30 C30
theorem E99 : EnvOk Tryz.prog B G99 := EnvOk.add (E98 hB) (fn_ok pm (E98 hB) (fn := Tryz.f30) (by kernel_rfl) (by decide) t30 (p30 _ ⟨rfl, rfl, rfl⟩))
def G100 : Env := G99.add 32 C32
theorem E100 : EnvOk Tryz.prog B G100 := EnvOk.add (E99 hB) (fn_ok pm (E99 hB) (fn := Tryz.f32) (by kernel_rfl) (by decide) t32 (p32 _ ⟨rfl, rfl, rfl⟩))
def G101 : Env := G100.add 51 C51
theorem E101 : EnvOk Tryz.prog B G101 := EnvOk.add (E100 hB) (fn_ok pm (E100 hB) (fn := Tryz.f51) (by kernel_rfl) (by decide) t51 (p51 _ rfl rfl rfl rfl))
def G102 : Env := G101.add 34 C34
theorem E102 : EnvOk Tryz.prog B G102 := EnvOk.add (E101 hB) (fn_ok pm (E101 hB) (fn := Tryz.f34) (by kernel_rfl) (by decide) t34 (p34 _ ⟨rfl, rfl, rfl⟩ ⟨rfl, rfl, rfl⟩ ⟨rfl, rfl, rfl⟩))
def G103 : Env := G102.add 36 C36
theorem E103 : EnvOk Tryz.prog B G103 := EnvOk.add (E102 hB) (fn_ok pm (E102 hB) (fn := Tryz.f36) (by kernel_rfl) (by decide) t36 (p36 _ ⟨rfl, rfl, rfl⟩))
def G104 : Env := G103.add 3 C3
theorem E104 : EnvOk Tryz.prog B G104 := EnvOk.add (E103 hB) (fn_ok pm (E103 hB) (fn := Tryz.f3) (by kernel_rfl) (by decide) t3 (p3 _ ⟨rfl, rfl, rfl⟩ ⟨rfl, rfl, rfl⟩ ⟨rfl, rfl, rfl⟩ ⟨rfl, rfl, rfl⟩ ⟨rfl, rfl, rfl⟩ ⟨rfl, rfl, rfl⟩ ⟨rfl, rfl, rfl⟩ ⟨rfl, rfl, rfl⟩ ⟨rfl, rfl, rfl⟩ ⟨rfl, rfl, rfl⟩ ⟨rfl, rfl, rfl⟩ ⟨rfl, rfl, rfl⟩ ⟨rfl, rfl, rfl⟩ ⟨rfl, rfl, rfl⟩ ⟨rfl, rfl, rfl⟩ ⟨rfl, rfl, rfl⟩ ⟨rfl, rfl, rfl⟩ ⟨rfl, rfl, rfl⟩ ⟨rfl, rfl, rfl⟩ ⟨rfl, rfl, rfl⟩ ⟨rfl, rfl, rfl⟩ ⟨rfl, rfl, rfl⟩ ⟨rfl, rfl, rfl⟩ ⟨rfl, rfl, rfl⟩ ⟨rfl, rfl, rfl⟩ ⟨rfl, rfl, rfl⟩ ⟨rfl, rfl, rfl⟩))
theorem okLaw : OkFn Tryz.prog B 3 C3 := (E104 hB).1 3 C3 rfl
end
end RV.Dr
