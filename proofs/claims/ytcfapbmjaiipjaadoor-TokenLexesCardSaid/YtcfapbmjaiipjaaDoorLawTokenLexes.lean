/- Chapter 13: the law TokenLexes. -/
import Derived.Test.YtcfapbmjaiipjaaDoorTokS
