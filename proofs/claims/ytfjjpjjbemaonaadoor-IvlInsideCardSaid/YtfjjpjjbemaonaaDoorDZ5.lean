/- Lemmas for a claim: an abstract machine for the translated code, proved sound, and contracts of functions. By an AI agent. -/
import Derived.Test.YtfjjpjjbemaonaaDoorDCt
import Derived.Test.YtfjjpjjbemaonaaDoorRd
import Derived.Test.YtfjjpjjbemaonaaDoorRf
import Derived.Test.YtfjjpjjbemaonaaDoorRh
import Derived.Test.YtfjjpjjbemaonaaDoorRg
import Derived.Test.YtfjjpjjbemaonaaDoorRj
import Derived.Test.YtfjjpjjbemaonaaDoorRk
import Derived.Test.YtfjjpjjbemaonaaDoorDL5
set_option linter.all false
namespace RV.Dr
open Go Go.Proofs RV
set_option linter.unusedVariables false
set_option maxRecDepth 100000
set_option maxHeartbeats 4000000
theorem pm : Tryd.prog.follows .mixedOrders = true := by kernel_rfl
def G0 : Env := Env.none
section
variable {B : Mem} (hB : TabB B)
include hB
theorem E0 : EnvOk Tryd.prog B G0 := EnvOk.none _ _
def G1 : Env := Env.add G0 65 C65
theorem E1 : EnvOk Tryd.prog B G1 := EnvOk.add (E0 hB) (fn_ok pm (E0 hB) (fn := Tryd.f65) (by kernel_rfl) (by decide) t65 (p65 _))
def G2 : Env := Env.add G1 67 C67
theorem E2 : EnvOk Tryd.prog B G2 := EnvOk.add (E1 hB) (fn_ok pm (E1 hB) (fn := Tryd.f67) (by kernel_rfl) (by decide) t67 (p67 _))
def G3 : Env := Env.add G2 66 C66
theorem E3 : EnvOk Tryd.prog B G3 := EnvOk.add (E2 hB) (fn_ok pm (E2 hB) (fn := Tryd.f66) (by kernel_rfl) (by decide) t66 (p66 _ rfl rfl rfl rfl))
def G4 : Env := Env.add G3 38 C38
theorem E4 : EnvOk Tryd.prog B G4 := EnvOk.add (E3 hB) (fn_ok pm (E3 hB) (fn := Tryd.f38) (by kernel_rfl) (by decide) t38 (p38 _ rfl rfl))
def G5 : Env := Env.add G4 58 C58
theorem E5 : EnvOk Tryd.prog B G5 := EnvOk.add (E4 hB) (fn_ok pm (E4 hB) (fn := Tryd.f58) (by kernel_rfl) (by decide) t58 (p58 _))
def G6 : Env := Env.add G5 34 C34
theorem E6 : EnvOk Tryd.prog B G6 := EnvOk.add (E5 hB) (fn_ok pm (E5 hB) (fn := Tryd.f34) (by kernel_rfl) (by decide) t34 (p34 _ rfl rfl rfl rfl))
def G7 : Env := Env.add G6 81 C81
theorem E7 : EnvOk Tryd.prog B G7 := EnvOk.add (E6 hB) (fn_ok pm (E6 hB) (fn := Tryd.f81) (by kernel_rfl) (by decide) t81 (p81 _))
def G8 : Env := Env.add G7 93 C93
theorem E8 : EnvOk Tryd.prog B G8 := EnvOk.add (E7 hB) (fn_ok pm (E7 hB) (fn := Tryd.f93) (by kernel_rfl) (by decide) t93 (p93 _))
def G9 : Env := Env.add G8 80 C80
theorem E9 : EnvOk Tryd.prog B G9 := EnvOk.add (E8 hB) (fn_ok pm (E8 hB) (fn := Tryd.f80) (by kernel_rfl) (by decide) t80 (p80 _ rfl rfl rfl rfl))
def G10 : Env := Env.add G9 96 C96
theorem E10 : EnvOk Tryd.prog B G10 := EnvOk.add (E9 hB) (ok96 hB)
def G11 : Env := Env.add G10 82 C82
theorem E11 : EnvOk Tryd.prog B G11 := EnvOk.add (E10 hB) (fn_ok pm (E10 hB) (fn := Tryd.f82) (by kernel_rfl) (by decide) t82 (p82 _ rfl rfl))
def G12 : Env := Env.add G11 88 C88
theorem E12 : EnvOk Tryd.prog B G12 := EnvOk.add (E11 hB) (fn_ok pm (E11 hB) (fn := Tryd.f88) (by kernel_rfl) (by decide) t88 (p88 _))
def G13 : Env := Env.add G12 92 C92
theorem E13 : EnvOk Tryd.prog B G13 := EnvOk.add (E12 hB) (fn_oko pm (E12 hB) (fn := Tryd.f92) (by kernel_rfl) (by decide) t92 (p92 _))
def G14 : Env := Env.add G13 78 C78
theorem E14 : EnvOk Tryd.prog B G14 := EnvOk.add (E13 hB) (fn_ok pm (E13 hB) (fn := Tryd.f78) (by kernel_rfl) (by decide) t78 (p78 _ rfl rfl rfl rfl))
def G15 : Env := Env.add G14 62 C62
theorem E15 : EnvOk Tryd.prog B G15 := EnvOk.add (E14 hB) (fn_ok pm (E14 hB) (fn := Tryd.f62) (by kernel_rfl) (by decide) t62 (p62 _ rfl rfl rfl rfl rfl rfl))
def G16 : Env := Env.add G15 50 C50
theorem E16 : EnvOk Tryd.prog B G16 := EnvOk.add (E15 hB) (fn_ok pm (E15 hB) (fn := Tryd.f50) (by kernel_rfl) (by decide) t50 (p50 _ rfl rfl))
def G17 : Env := Env.add G16 32 C32
theorem E17 : EnvOk Tryd.prog B G17 := EnvOk.add (E16 hB) (fn_ok pm (E16 hB) (fn := Tryd.f32) (by kernel_rfl) (by decide) t32 (p32 _ rfl rfl))
def G18 : Env := Env.add G17 49 C49
theorem E18 : EnvOk Tryd.prog B G18 := EnvOk.add (E17 hB) (fn_ok pm (E17 hB) (fn := Tryd.f49) (by kernel_rfl) (by decide) t49 (p49 _ rfl rfl))
def G19 : Env := Env.add G18 99 C99
theorem E19 : EnvOk Tryd.prog B G19 := EnvOk.add (E18 hB) (ok99 B)
def G20 : Env := Env.add G19 87 C87
theorem E20 : EnvOk Tryd.prog B G20 := EnvOk.add (E19 hB) (fn_ok pm (E19 hB) (fn := Tryd.f87) (by kernel_rfl) (by decide) t87 (p87 _ rfl rfl))
def G21 : Env := Env.add G20 70 C70
theorem E21 : EnvOk Tryd.prog B G21 := EnvOk.add (E20 hB) (fn_ok pm (E20 hB) (fn := Tryd.f70) (by kernel_rfl) (by decide) t70 (p70 _ rfl rfl))
def G22 : Env := Env.add G21 75 C75
theorem E22 : EnvOk Tryd.prog B G22 := EnvOk.add (E21 hB) (fn_ok pm (E21 hB) (fn := Tryd.f75) (by kernel_rfl) (by decide) t75 (p75 _))
def G23 : Env := Env.add G22 97 C97
theorem E23 : EnvOk Tryd.prog B G23 := EnvOk.add (E22 hB) (fn_ok pm (E22 hB) (fn := Tryd.f97) (by kernel_rfl) (by decide) t97 (p97 _))
def G24 : Env := Env.addm G23 83 C83
theorem E24 : EnvOk Tryd.prog B G24 := EnvOk.addm (E23 hB) (fn_okm pm (E23 hB) (fn := Tryd.f83) (by kernel_rfl) (by decide) t83 (fun az cs h => p83 _ az cs h))
def G25 : Env := Env.addm G24 85 C85
theorem E25 : EnvOk Tryd.prog B G25 := EnvOk.addm (E24 hB) (fn_okm pm (E24 hB) (fn := Tryd.f85) (by kernel_rfl) (by decide) t85 (fun az cs h => p85 _ rfl az cs h))
def G26 : Env := Env.addm G25 86 C86
theorem E26 : EnvOk Tryd.prog B G26 := EnvOk.addm (E25 hB) (fn_okm pm (E25 hB) (fn := Tryd.f86) (by kernel_rfl) (by decide) t86 (fun az cs h => p86 _ rfl az cs h))
def G27 : Env := Env.addm G26 84 C84
theorem E27 : EnvOk Tryd.prog B G27 := EnvOk.addm (E26 hB) (fn_okm pm (E26 hB) (fn := Tryd.f84) (by kernel_rfl) (by decide) t84 (fun az cs h => p84 _ rfl rfl rfl rfl rfl rfl az cs h))
def G28 : Env := Env.add G27 63 C63
theorem E28 : EnvOk Tryd.prog B G28 := EnvOk.add (E27 hB) (fn_ok pm (E27 hB) (fn := Tryd.f63) (by kernel_rfl) (by decide) t63 (p63 _ rfl))
def G29 : Env := Env.addm G28 77 C77
theorem E29 : EnvOk Tryd.prog B G29 := EnvOk.addm (E28 hB) (fn_okm pm (E28 hB) (fn := Tryd.f77) (by kernel_rfl) (by decide) t77 (fun az cs h => p77 _ rfl rfl rfl rfl az cs h))
def G30 : Env := Env.add G29 57 C57
theorem E30 : EnvOk Tryd.prog B G30 := EnvOk.add (E29 hB) (fn_ok pm (E29 hB) (fn := Tryd.f57) (by kernel_rfl) (by decide) t57 (p57 _ rfl rfl rfl rfl rfl rfl rfl rfl rfl))
def G31 : Env := Env.add G30 56 C56
theorem E31 : EnvOk Tryd.prog B G31 := EnvOk.add (E30 hB) (fn_ok pm (E30 hB) (fn := Tryd.f56) (by kernel_rfl) (by decide) t56 (p56 _ rfl rfl))
def G32 : Env := Env.add G31 71 C71
theorem E32 : EnvOk Tryd.prog B G32 := EnvOk.add (E31 hB) (fn_ok pm (E31 hB) (fn := Tryd.f71) (by kernel_rfl) (by decide) t71 (p71 _ rfl rfl rfl))
def G33 : Env := Env.addm G32 89 C89
theorem E33 : EnvOk Tryd.prog B G33 := EnvOk.addm (E32 hB) (fn_okm pm (E32 hB) (fn := Tryd.f89) (by kernel_rfl) (by decide) t89 (fun az cs h => p89 _ rfl az cs h))
def G34 : Env := Env.addm G33 103 C103
theorem E34 : EnvOk Tryd.prog B G34 := EnvOk.addm (E33 hB) (fn_okm pm (E33 hB) (fn := Tryd.f103) (by kernel_rfl) (by decide) t103 (fun az cs h => p103 _ az cs h))
def G35 : Env := Env.add G34 101 C101
theorem E35 : EnvOk Tryd.prog B G35 := EnvOk.add (E34 hB) (fn_oko pm (E34 hB) (fn := Tryd.f101) (by kernel_rfl) (by decide) t101 (p101 _ rfl rfl rfl))
def G36 : Env := Env.add G35 102 C102
theorem E36 : EnvOk Tryd.prog B G36 := EnvOk.add (E35 hB) (fn_ok pm (E35 hB) (fn := Tryd.f102) (by kernel_rfl) (by decide) t102 (p102 _))
def G37 : Env := Env.add G36 91 C91
theorem E37 : EnvOk Tryd.prog B G37 := EnvOk.add (E36 hB) (fn_ok pm (E36 hB) (fn := Tryd.f91) (by kernel_rfl) (by decide) t91 (p91 _ rfl rfl))
def G38 : Env := Env.add G37 100 C100
theorem E38 : EnvOk Tryd.prog B G38 := EnvOk.add (E37 hB) (fn_ok pm (E37 hB) (fn := Tryd.f100) (by kernel_rfl) (by decide) t100 (p100 _ rfl rfl))
def G39 : Env := Env.addm G38 90 C90
theorem E39 : EnvOk Tryd.prog B G39 := EnvOk.addm (E38 hB) (fn_okm pm (E38 hB) (fn := Tryd.f90) (by kernel_rfl) (by decide) t90 (fun az cs h => p90 _ rfl rfl rfl rfl rfl az cs h))
def G40 : Env := Env.add G39 72 C72
theorem E40 : EnvOk Tryd.prog B G40 := EnvOk.add (E39 hB) (fn_ok pm (E39 hB) (fn := Tryd.f72) (by kernel_rfl) (by decide) t72 (p72 _ rfl rfl rfl rfl rfl rfl))
def G41 : Env := Env.add G40 73 C73
theorem E41 : EnvOk Tryd.prog B G41 := EnvOk.add (E40 hB) (fn_ok pm (E40 hB) (fn := Tryd.f73) (by kernel_rfl) (by decide) t73 (p73 _ rfl rfl))
def G42 : Env := Env.add G41 74 C74
theorem E42 : EnvOk Tryd.prog B G42 := EnvOk.add (E41 hB) (fn_ok pm (E41 hB) (fn := Tryd.f74) (by kernel_rfl) (by decide) t74 (p74 _ rfl rfl rfl))
def G43 : Env := Env.add G42 54 C54
theorem E43 : EnvOk Tryd.prog B G43 := EnvOk.add (E42 hB) (fn_ok pm (E42 hB) (fn := Tryd.f54) (by kernel_rfl) (by decide) t54 (p54 _ rfl rfl rfl rfl rfl rfl rfl rfl rfl rfl rfl rfl rfl rfl rfl rfl rfl rfl))
def G44 : Env := Env.add G43 53 C53
theorem E44 : EnvOk Tryd.prog B G44 := EnvOk.add (E43 hB) (fn_ok pm (E43 hB) (fn := Tryd.f53) (by kernel_rfl) (by decide) t53 (p53 _ rfl rfl))
def G45 : Env := Env.add G44 48 C48
theorem E45 : EnvOk Tryd.prog B G45 := EnvOk.add (E44 hB) (fn_ok pm (E44 hB) (fn := Tryd.f48) (by kernel_rfl) (by decide) t48 (p48 _ rfl rfl rfl rfl rfl rfl))
def G46 : Env := Env.add G45 60 C60
theorem E46 : EnvOk Tryd.prog B G46 := EnvOk.add (E45 hB) (fn_ok pm (E45 hB) (fn := Tryd.f60) (by kernel_rfl) (by decide) t60 (p60 _))
def G47 : Env := Env.add G46 52 C52
theorem E47 : EnvOk Tryd.prog B G47 := EnvOk.add (E46 hB) (fn_ok pm (E46 hB) (fn := Tryd.f52) (by kernel_rfl) (by decide) t52 (p52 _ rfl rfl))
def G48 : Env := Env.add G47 25 C25
theorem E48 : EnvOk Tryd.prog B G48 := EnvOk.add (E47 hB) (fn_ok pm (E47 hB) (fn := Tryd.f25) (by kernel_rfl) (by decide) t25 (p25 _ rfl rfl rfl rfl))
def G49 : Env := Env.add G48 42 C42
theorem E49 : EnvOk Tryd.prog B G49 := EnvOk.add (E48 hB) (fn_ok pm (E48 hB) (fn := Tryd.f42) (by kernel_rfl) (by decide) t42 (p42 _))
def G50 : Env := Env.add G49 47 C47
theorem E50 : EnvOk Tryd.prog B G50 := EnvOk.add (E49 hB) (fn_ok pm (E49 hB) (fn := Tryd.f47) (by kernel_rfl) (by decide) t47 (p47 _ rfl rfl))
def G51 : Env := Env.add G50 61 C61
theorem E51 : EnvOk Tryd.prog B G51 := EnvOk.add (E50 hB) (fn_ok pm (E50 hB) (fn := Tryd.f61) (by kernel_rfl) (by decide) t61 (p61 _ rfl rfl))
def G52 : Env := Env.add G51 64 C64
theorem E52 : EnvOk Tryd.prog B G52 := EnvOk.add (E51 hB) (fn_ok pm (E51 hB) (fn := Tryd.f64) (by kernel_rfl) (by decide) t64 (p64 _ rfl rfl rfl))
def G53 : Env := Env.add G52 36 C36
theorem E53 : EnvOk Tryd.prog B G53 := EnvOk.add (E52 hB) (fn_ok pm (E52 hB) (fn := Tryd.f36) (by kernel_rfl) (by decide) t36 (p36 _ rfl rfl rfl rfl rfl rfl rfl rfl rfl rfl rfl rfl))
def G54 : Env := Env.add G53 44 C44
theorem E54 : EnvOk Tryd.prog B G54 := EnvOk.add (E53 hB) (fn_ok pm (E53 hB) (fn := Tryd.f44) (by kernel_rfl) (by decide) t44 (p44 _ rfl rfl rfl rfl rfl rfl))
def G55 : Env := Env.add G54 43 C43
theorem E55 : EnvOk Tryd.prog B G55 := EnvOk.add (E54 hB) (fn_ok pm (E54 hB) (fn := Tryd.f43) (by kernel_rfl) (by decide) t43 (p43 _ rfl rfl))
def G56 : Env := Env.add G55 45 C45
theorem E56 : EnvOk Tryd.prog B G56 := EnvOk.add (E55 hB) (fn_ok pm (E55 hB) (fn := Tryd.f45) (by kernel_rfl) (by decide) t45 (p45 _ rfl rfl))
def G57 : Env := Env.add G56 69 C69
theorem E57 : EnvOk Tryd.prog B G57 := EnvOk.add (E56 hB) (fn_ok pm (E56 hB) (fn := Tryd.f69) (by kernel_rfl) (by decide) t69 (p69 _ rfl rfl rfl rfl))
theorem Z58 : SqOk Tryd.prog B Sq14 := fun f C e => by
  unfold Sq14 at e
  split at e
  · rename_i h
    subst h
    simp only [Option.some.injEq] at e
    subst e
    exact fn_oks pm (E57 hB) (fn := Tryd.f68) (by kernel_rfl) (by decide) t68 (q68 _ rfl rfl)
  · cases e
def G58 : Env := Env.add G57 14 C14
theorem E58 : EnvOk Tryd.prog B G58 := EnvOk.add (E57 hB) (fn_okx pm (E57 hB) (Z58 hB) (fn := Tryd.f14) (by kernel_rfl) (by decide) t14 (p14 _ rfl rfl rfl rfl rfl rfl))
def G59 : Env := Env.add G58 51 C51
theorem E59 : EnvOk Tryd.prog B G59 := EnvOk.add (E58 hB) (fn_ok pm (E58 hB) (fn := Tryd.f51) (by kernel_rfl) (by decide) t51 (p51 _))
def G60 : Env := Env.add G59 20 C20
theorem E60 : EnvOk Tryd.prog B G60 := EnvOk.add (E59 hB) (fn_ok pm (E59 hB) (fn := Tryd.f20) (by kernel_rfl) (by decide) t20 (p20 _ rfl rfl))
def G61 : Env := Env.add G60 23 C23
theorem E61 : EnvOk Tryd.prog B G61 := EnvOk.add (E60 hB) (fn_ok pm (E60 hB) (fn := Tryd.f23) (by kernel_rfl) (by decide) t23 (p23 _ rfl rfl))
def G62 : Env := Env.add G61 12 C12
theorem E62 : EnvOk Tryd.prog B G62 := EnvOk.add (E61 hB) (fn_ok pm (E61 hB) (fn := Tryd.f12) (by kernel_rfl) (by decide) t12 (p12 _ rfl rfl))
def G63 : Env := Env.add G62 16 C16
theorem E63 : EnvOk Tryd.prog B G63 := EnvOk.add (E62 hB) (fn_ok pm (E62 hB) (fn := Tryd.f16) (by kernel_rfl) (by decide) t16 (p16 _ rfl rfl))
def G64 : Env := Env.add G63 24 C24
theorem E64 : EnvOk Tryd.prog B G64 := EnvOk.add (E63 hB) (fn_ok pm (E63 hB) (fn := Tryd.f24) (by kernel_rfl) (by decide) t24 (p24 _ rfl rfl))
def G65 : Env := Env.add G64 11 C11
theorem E65 : EnvOk Tryd.prog B G65 := EnvOk.add (E64 hB) (fn_ok pm (E64 hB) (fn := Tryd.f11) (by kernel_rfl) (by decide) t11 (p11 _ rfl rfl))
def G66 : Env := Env.add G65 21 C21
theorem E66 : EnvOk Tryd.prog B G66 := EnvOk.add (E65 hB) (fn_ok pm (E65 hB) (fn := Tryd.f21) (by kernel_rfl) (by decide) t21 (p21 _ rfl rfl rfl rfl))
def G67 : Env := Env.add G66 94 C94
theorem E67 : EnvOk Tryd.prog B G67 := EnvOk.add (E66 hB) (fn_ok pm (E66 hB) (fn := Tryd.f94) (by kernel_rfl) (by decide) t94 (p94 _ rfl rfl))
def G68 : Env := Env.add G67 79 C79
theorem E68 : EnvOk Tryd.prog B G68 := EnvOk.add (E67 hB) (fn_ok pm (E67 hB) (fn := Tryd.f79) (by kernel_rfl) (by decide) t79 (p79 _ rfl rfl))
def G69 : Env := Env.add G68 59 C59
theorem E69 : EnvOk Tryd.prog B G69 := EnvOk.add (E68 hB) (fn_ok pm (E68 hB) (fn := Tryd.f59) (by kernel_rfl) (by decide) t59 (p59 _ rfl rfl rfl rfl))
def G70 : Env := Env.add G69 35 C35
theorem E70 : EnvOk Tryd.prog B G70 := EnvOk.add (E69 hB) (fn_ok pm (E69 hB) (fn := Tryd.f35) (by kernel_rfl) (by decide) t35 (p35 _ rfl rfl rfl rfl))
def G71 : Env := Env.add G70 18 C18
theorem E71 : EnvOk Tryd.prog B G71 := EnvOk.add (E70 hB) (fn_ok pm (E70 hB) (fn := Tryd.f18) (by kernel_rfl) (by decide) t18 (p18 _ rfl rfl))
def G72 : Env := Env.add G71 27 C27
theorem E72 : EnvOk Tryd.prog B G72 := EnvOk.add (E71 hB) (fn_ok pm (E71 hB) (fn := Tryd.f27) (by kernel_rfl) (by decide) t27 (p27 _ rfl rfl))
def G73 : Env := Env.add G72 8 C8
theorem E73 : EnvOk Tryd.prog B G73 := EnvOk.add (E72 hB) (fn_ok pm (E72 hB) (fn := Tryd.f8) (by kernel_rfl) (by decide) t8 (p8 _ rfl rfl rfl rfl rfl rfl rfl rfl rfl rfl rfl rfl rfl rfl rfl rfl rfl rfl rfl rfl rfl rfl rfl rfl rfl rfl rfl rfl))
def G74 : Env := Env.add G73 76 C76
theorem E74 : EnvOk Tryd.prog B G74 := EnvOk.add (E73 hB) (fn_ok pm (E73 hB) (fn := Tryd.f76) (by kernel_rfl) (by decide) t76 (p76 _))
def G75 : Env := Env.add G74 55 C55
theorem E75 : EnvOk Tryd.prog B G75 := EnvOk.add (E74 hB) (fn_ok pm (E74 hB) (fn := Tryd.f55) (by kernel_rfl) (by decide) t55 (p55 _ rfl rfl))
def G76 : Env := Env.add G75 31 C31
theorem E76 : EnvOk Tryd.prog B G76 := EnvOk.add (E75 hB) (fn_ok pm (E75 hB) (fn := Tryd.f31) (by kernel_rfl) (by decide) t31 (p31 _ rfl rfl))
def G77 : Env := Env.add G76 17 C17
theorem E77 : EnvOk Tryd.prog B G77 := EnvOk.add (E76 hB) (fn_ok pm (E76 hB) (fn := Tryd.f17) (by kernel_rfl) (by decide) t17 (p17 _))
def G78 : Env := Env.add G77 37 C37
theorem E78 : EnvOk Tryd.prog B G78 := EnvOk.add (E77 hB) (fn_ok pm (E77 hB) (fn := Tryd.f37) (by kernel_rfl) (by decide) t37 (p37 _ rfl rfl))
def G79 : Env := Env.add G78 39 C39
theorem E79 : EnvOk Tryd.prog B G79 := EnvOk.add (E78 hB) (fn_ok pm (E78 hB) (fn := Tryd.f39) (by kernel_rfl) (by decide) t39 (p39 _ rfl rfl rfl rfl))
def G80 : Env := Env.add G79 40 C40
theorem E80 : EnvOk Tryd.prog B G80 := EnvOk.add (E79 hB) (fn_ok pm (E79 hB) (fn := Tryd.f40) (by kernel_rfl) (by decide) t40 (p40 _))
def G81 : Env := Env.add G80 41 C41
theorem E81 : EnvOk Tryd.prog B G81 := EnvOk.add (E80 hB) (fn_ok pm (E80 hB) (fn := Tryd.f41) (by kernel_rfl) (by decide) t41 (p41 _ rfl rfl rfl rfl rfl rfl))
def G82 : Env := Env.add G81 13 C13
theorem E82 : EnvOk Tryd.prog B G82 := EnvOk.add (E81 hB) (fn_ok pm (E81 hB) (fn := Tryd.f13) (by kernel_rfl) (by decide) t13 (p13 _ rfl rfl rfl rfl rfl rfl rfl rfl rfl rfl))
def G83 : Env := Env.add G82 28 C28
theorem E83 : EnvOk Tryd.prog B G83 := EnvOk.add (E82 hB) (fn_ok pm (E82 hB) (fn := Tryd.f28) (by kernel_rfl) (by decide) t28 (p28 _))
def G84 : Env := Env.add G83 30 C30
theorem E84 : EnvOk Tryd.prog B G84 := EnvOk.add (E83 hB) (fn_ok pm (E83 hB) (fn := Tryd.f30) (by kernel_rfl) (by decide) t30 (p30 _ rfl rfl rfl rfl rfl rfl))
def G85 : Env := Env.add G84 9 C9
theorem E85 : EnvOk Tryd.prog B G85 := EnvOk.add (E84 hB) (fn_ok pm (E84 hB) (fn := Tryd.f9) (by kernel_rfl) (by decide) t9 (p9 _ rfl rfl rfl rfl))
def G86 : Env := Env.add G85 26 C26
theorem E86 : EnvOk Tryd.prog B G86 := EnvOk.add (E85 hB) (fn_ok pm (E85 hB) (fn := Tryd.f26) (by kernel_rfl) (by decide) t26 (p26 _ rfl rfl rfl rfl))
def G87 : Env := Env.add G86 5 C5
theorem E87 : EnvOk Tryd.prog B G87 := EnvOk.add (E86 hB) (fn_ok pm (E86 hB) (fn := Tryd.f5) (by kernel_rfl) (by decide) t5 (p5 _ rfl rfl rfl rfl rfl rfl rfl rfl rfl rfl rfl rfl rfl rfl rfl rfl))
theorem okLaw : OkFn Tryd.prog B 5 C5 := (E87 hB).1 5 C5 rfl
end
end RV.Dr
