/- Chapter 19, the judge's: may a core be? Words, callees. -/
import Derived.Test.YtnfbbjhdflhmjaaGreatDoorCx
import Derived.Test.YtnfbbjhdflhmjaaGreatDoorGLd
set_option linter.unusedSimpArgs false
set_option linter.unusedVariables false
set_option maxRecDepth 10000
namespace Go.Proofs.YtnfbbjhdflhmjaaGreatDoor
open Go.Al
end Go.Proofs.YtnfbbjhdflhmjaaGreatDoor
