/- Functions that the law FnPlaceMembers reaches, as plain functions of Lean, and that the machine's calls come to them: written out of the translation by a program of this session over the kit's printer. Conditions: as each lemma states them. -/
import Derived.Test.YtbieglaagpogkaaFFnPlaceMembersx0
import Derived.Test.YtbieglaagpogkaaFFnPlaceMembersx1
import Derived.Test.YtbieglaagpogkaaFFnPlaceMembersx2
import Derived.Test.YtbieglaagpogkaaFFnPlaceMembersx3
import Derived.Test.YtbieglaagpogkaaFFnPlaceMembersx4
import Derived.Test.YtbieglaagpogkaaFFnPlaceMembersx5
import Derived.Test.YtbieglaagpogkaaFFnPlaceMembersx6
namespace Go.Proofs.Ytbieglaagpogkaa.FFnPlaceMembers
open Go.RowKit Go.Proofs.YtbieglaagpogkaaW.PrintWords Go.Proofs.YtbieglaagpogkaaW.PrintLast Go.Proofs.YtbieglaagpogkaaW.PrintMore
attribute [local go_sem] max2_int min2_int max_two min_two max_three min_three max_four min_four   -- for this text's walks alone
set_option linter.unusedVariables false
set_option linter.unusedSimpArgs false

end Go.Proofs.Ytbieglaagpogkaa.FFnPlaceMembers
