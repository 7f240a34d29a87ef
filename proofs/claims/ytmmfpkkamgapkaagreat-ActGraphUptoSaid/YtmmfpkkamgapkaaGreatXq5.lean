/- What is told of a space: sums of words,beginnings,kinds. No program in sight. -/
import Derived.Test.YtmmfpkkamgapkaaGreatXq4
namespace Go.Proofs.YtmmfpkkamgapkaaGreat.X
open Go Go.RowKit
set_option linter.unusedVariables false
theorem cut0 {k:IntKind}{xs:List Int}{n:Nat} : ((List.map (SV.int k) xs).take n).drop (Int.toNat 0)=List.map (SV.int k) (xs.take n):=by simp
end Go.Proofs.YtmmfpkkamgapkaaGreat.X
