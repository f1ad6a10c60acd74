/- Chapter 13: the law TokenLexes. -/
import Derived.Test.YtcfapbmjaiipjaaDoorTokS
set_option linter.unusedSimpArgs false
set_option linter.unusedVariables false
