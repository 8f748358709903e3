import Derived.Test.YtnfcadjckoebkaaHXPu
import Derived.Test.YtnfcadjckoebkaaHXLF
namespace Go.Proofs.Ytnfcadjckoebkaa.P
theorem head6 : symbolonlaw06_head.f 2000 = some true := by decide +kernel
end Go.Proofs.Ytnfcadjckoebkaa.P
