/- The arguments' types, opened: what the row pays of each value. Conditions: none. -/
import Derived.Test.YtkkkpmobdaebgaaPr0
import Derived.Test.YtkkkpmobdaebgaaOpnU
namespace Go.Proofs.Ytkkkpmobdaebgaa.Pr
open Go.RowKit Go.Proofs.Ytkkkpmobdaebgaa.Opn Go.Proofs.YtkkkpmobdaebgaaW.PrintWords Go.Proofs.YtkkkpmobdaebgaaW.PrintLast Go.Proofs.YtkkkpmobdaebgaaW.PrintMore
set_option maxRecDepth 100000
end Go.Proofs.Ytkkkpmobdaebgaa.Pr
