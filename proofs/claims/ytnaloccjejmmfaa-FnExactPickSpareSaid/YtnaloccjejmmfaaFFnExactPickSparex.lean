/- Functions that the law FnExactPickSpare reaches, as plain functions of Lean, and that the machine's calls come to them: written out of the translation by a program of this session over the kit's printer. Conditions: as each lemma states them. -/
import Derived.Test.YtnaloccjejmmfaaFFnExactPickSparex0
import Derived.Test.YtnaloccjejmmfaaFFnExactPickSparex1
import Derived.Test.YtnaloccjejmmfaaFFnExactPickSparex2
import Derived.Test.YtnaloccjejmmfaaFFnExactPickSparex3
import Derived.Test.YtnaloccjejmmfaaFFnExactPickSparex4
import Derived.Test.YtnaloccjejmmfaaFFnExactPickSparex5
import Derived.Test.YtnaloccjejmmfaaFFnExactPickSparex6
namespace Go.Proofs.Ytnaloccjejmmfaa.FFnExactPickSpare
open Go.RowKit Go.Proofs.YtnaloccjejmmfaaW.PrintWords Go.Proofs.YtnaloccjejmmfaaW.PrintLast Go.Proofs.YtnaloccjejmmfaaW.PrintMore
attribute [local go_sem] max2_int min2_int max_two min_two max_three min_three max_four min_four   -- for this text's walks alone
set_option linter.unusedVariables false
set_option linter.unusedSimpArgs false

end Go.Proofs.Ytnaloccjejmmfaa.FFnExactPickSpare
