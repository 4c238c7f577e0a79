/- Written for this claim by a program of this session (a turned copy of the print): Go functions as Lean functions, and that the Go code comes to just these answers; or a statement proved out of them. No condition. -/
import Derived.Test.YteiimfmanfafhaaPx0
import Derived.Test.YteiimfmanfafhaaOpen
import Derived.KernelRfl
namespace Go.Proofs.Yteiimfmanfafhaa.P
open Go.RowKit Go.Proofs.Yteiimfmanfafhaa.O Go.Proofs.YteiimfmanfafhaaW.PrintWords Go.Proofs.YteiimfmanfafhaaW.PrintLast
end Go.Proofs.Yteiimfmanfafhaa.P
