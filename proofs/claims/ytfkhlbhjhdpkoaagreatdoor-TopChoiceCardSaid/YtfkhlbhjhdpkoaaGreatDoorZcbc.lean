/- Nothing. -/
import Derived.Test.YtfkhlbhjhdpkoaaGreatDoorZcao
import Derived.Test.YtfkhlbhjhdpkoaaGreatDoorZcap
import Derived.Test.YtfkhlbhjhdpkoaaGreatDoorZcaq
import Derived.Test.YtfkhlbhjhdpkoaaGreatDoorZcat
import Derived.Test.YtfkhlbhjhdpkoaaGreatDoorZcau
import Derived.Test.YtfkhlbhjhdpkoaaGreatDoorZcay
set_option linter.unusedVariables false
set_option linter.unusedSimpArgs false

