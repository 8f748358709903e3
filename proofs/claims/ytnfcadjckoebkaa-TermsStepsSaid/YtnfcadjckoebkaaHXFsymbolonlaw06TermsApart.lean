
import Derived.Test.YtnfcadjckoebkaaHX0
import Derived.Test.YtnfcadjckoebkaaHXRD
import Derived.Test.YtnfcadjckoebkaaHXRi
import Derived.Test.YtnfcadjckoebkaaHXTm
import Derived.Test.YtnfcadjckoebkaaHXLF
import Derived.Test.YtnfcadjckoebkaaHXRBo
import Derived.Test.YtnfcadjckoebkaaHXLFs
namespace Go.Proofs.Ytnfcadjckoebkaa.P
open Go.RowKit Go.Proofs.YtnfcadjckoebkaaW.PrintWords Go.Proofs.YtnfcadjckoebkaaW.PrintLast Go.Proofs.YtnfcadjckoebkaaW.PrintMore
attribute [local go_sem] min2_int min_two
set_option linter.unusedVariables false
set_option linter.unusedSimpArgs false
end Go.Proofs.Ytnfcadjckoebkaa.P
