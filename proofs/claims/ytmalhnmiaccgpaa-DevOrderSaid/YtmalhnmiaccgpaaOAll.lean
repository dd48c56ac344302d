/- The element types of this seat's arguments: how their cells read. -/
import Derived.Test.YtmalhnmiaccgpaaOpens
import Derived.Test.YtmalhnmiaccgpaaPAllx0
namespace Go.Proofs.Ytmalhnmiaccgpaa.Opens
open Go.RowKit Go.ChangeShapes Go.WideShapes Go.Proofs.YtmalhnmiaccgpaaW.PrintWords Go.Proofs.Ytmalhnmiaccgpaa.PAll
end Go.Proofs.Ytmalhnmiaccgpaa.Opens
