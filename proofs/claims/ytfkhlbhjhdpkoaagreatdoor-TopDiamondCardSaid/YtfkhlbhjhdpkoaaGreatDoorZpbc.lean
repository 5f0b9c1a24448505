/- Nothing. -/
import Derived.Test.YtfkhlbhjhdpkoaaGreatDoorZpam
import Derived.Test.YtfkhlbhjhdpkoaaGreatDoorZpan
import Derived.Test.YtfkhlbhjhdpkoaaGreatDoorZpao
import Derived.Test.YtfkhlbhjhdpkoaaGreatDoorZpat
import Derived.Test.YtfkhlbhjhdpkoaaGreatDoorZpau
import Derived.Test.YtfkhlbhjhdpkoaaGreatDoorZpay
set_option linter.unusedVariables false
set_option linter.unusedSimpArgs false

