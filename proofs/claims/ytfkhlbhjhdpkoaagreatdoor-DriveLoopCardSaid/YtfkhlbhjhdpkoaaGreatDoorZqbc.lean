/- Nothing. -/
import Derived.Test.YtfkhlbhjhdpkoaaGreatDoorZqam
import Derived.Test.YtfkhlbhjhdpkoaaGreatDoorZqan
import Derived.Test.YtfkhlbhjhdpkoaaGreatDoorZqao
import Derived.Test.YtfkhlbhjhdpkoaaGreatDoorZqat
import Derived.Test.YtfkhlbhjhdpkoaaGreatDoorZqau
import Derived.Test.YtfkhlbhjhdpkoaaGreatDoorZqay
set_option linter.unusedVariables false
set_option linter.unusedSimpArgs false

