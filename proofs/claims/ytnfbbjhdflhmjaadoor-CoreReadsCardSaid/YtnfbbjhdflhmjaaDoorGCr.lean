/- Chapter 19: CoreReads. -/
import Derived.Test.YtnfbbjhdflhmjaaDoorGLu
set_option linter.unusedSimpArgs false
set_option linter.unusedVariables false
set_option maxRecDepth 10000
namespace Go.Proofs.YtnfbbjhdflhmjaaDoor
open Go.Al
theorem CoreReads_con (c : Co) (hc : c.ok) (inp more : Str) : PCon env 5 [c.av, .str inp, .str more] (.bool true) := CoreReads_con' right_is c hc inp more
end Go.Proofs.YtnfbbjhdflhmjaaDoor
