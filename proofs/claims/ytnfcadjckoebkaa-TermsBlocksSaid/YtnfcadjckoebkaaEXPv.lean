/- The live question of the laws of layer 6. -/
import Derived.Test.YtnfcadjckoebkaaEXPu
import Derived.Test.YtnfcadjckoebkaaEXLF
namespace Go.Proofs.Ytnfcadjckoebkaa.P
theorem head6 : symbolonlaw06_head.f 2000 = some true := by decide +kernel
end Go.Proofs.Ytnfcadjckoebkaa.P
