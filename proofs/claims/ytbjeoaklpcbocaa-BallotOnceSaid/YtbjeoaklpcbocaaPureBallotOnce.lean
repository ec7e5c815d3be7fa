/- The pure statement of the law BallotOnce, proved. Conditions: none. -/
import Derived.Test.YtbjeoaklpcbocaaDefBallotOnce
namespace Go.Proofs.Ytbjeoaklpcbocaa.Pure
open Go.RowKit Go.Proofs.Ytbjeoaklpcbocaa.Pr Go.Proofs.YtbjeoaklpcbocaaW.PrintWords Go.Proofs.YtbjeoaklpcbocaaW.PrintLast Go.Proofs.YtbjeoaklpcbocaaW.PrintMore
theorem BallotOnce : ferrulelaw07_BallotOnce.Pure := fun _ _ _ _ _ _ _ _ => rfl
end Go.Proofs.Ytbjeoaklpcbocaa.Pure
