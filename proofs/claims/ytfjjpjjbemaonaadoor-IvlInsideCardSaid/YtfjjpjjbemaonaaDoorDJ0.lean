/- Lemmas for a claim: an abstract machine for the translated code, proved sound, and contracts of functions. By an AI agent. -/
import Derived.Test.YtfjjpjjbemaonaaDoorDH6
set_option linter.all false
namespace RV.Dr
open Go RV
/-! Short words for walks -/
theorem iy_di (i : Iv) : iy (di i) = i := iy_agg i.lo i.hi
def k3 (x : Dy) : List AV := [.d (.bool x.neg), .d (.ints .i64 (limbs x.m)), .d (.int .i64 x.e)]
def k6 (x y : Dy) : List AV := [.d (.bool x.neg), .d (.ints .i64 (limbs x.m)), .d (.int .i64 x.e), .d (.bool y.neg), .d (.ints .i64 (limbs y.m)), .d (.int .i64 y.e)]
def BX (s : St) (i : Nat) (cs : List AV) : Prop := s.tm i = .box i 0 ∧ s.bx i = some ⟨false, false, .cells cs⟩
end RV.Dr
