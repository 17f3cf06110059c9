/- The reference's Right of a log. -/
import Derived.Test.YtlgjbfdojbmmgaaU1
set_option linter.unusedSimpArgs false
set_option linter.unusedVariables false
namespace Go.Proofs.Ytlgjbfdojbmmgaa
open Go.SX
end Go.Proofs.Ytlgjbfdojbmmgaa
