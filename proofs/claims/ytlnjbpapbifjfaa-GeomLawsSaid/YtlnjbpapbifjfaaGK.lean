/- The laws of points and segments: the chapter's examples hold. -/
import Derived.Test.YtlnjbpapbifjfaaPx30
namespace Go.Proofs.Ytlnjbpapbifjfaa.G
set_option linter.unusedVariables false
open Go.RowKit Go.Proofs.Ytlnjbpapbifjfaa.P Go.Proofs.YtlnjbpapbifjfaaW.PrintWords Go.Proofs.YtlnjbpapbifjfaaW.PrintLast Go.Proofs.YtlnjbpapbifjfaaW.PrintMore
theorem known_ev : Ev (fun k => lapidarylaw09_known.f k) true := Ev.of (fun k => lapidarylaw09_known.mono k) (k := 60) (by decide +kernel)
theorem known_ev' : Ev (fun k => (lapidarylaw09_known.f k).bind fun t => some t) true := Ev.bind (f := fun _ t => some t) known_ev (Ev.now true)
end Go.Proofs.Ytlnjbpapbifjfaa.G
