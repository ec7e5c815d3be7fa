/- The arguments' types, opened: what the row pays of each value. Conditions: none. -/
import Derived.Test.YtajphdkolpkloaaPr0
import Derived.Test.YtajphdkolpkloaaOpnU
namespace Go.Proofs.Ytajphdkolpkloaa.Pr
open Go.RowKit Go.Proofs.Ytajphdkolpkloaa.Opn Go.Proofs.YtajphdkolpkloaaW.PrintWords Go.Proofs.YtajphdkolpkloaaW.PrintLast Go.Proofs.YtajphdkolpkloaaW.PrintMore
set_option maxRecDepth 100000
end Go.Proofs.Ytajphdkolpkloaa.Pr
