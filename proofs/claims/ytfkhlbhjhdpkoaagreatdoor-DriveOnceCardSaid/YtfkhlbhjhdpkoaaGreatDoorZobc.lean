/- Nothing. -/
import Derived.Test.YtfkhlbhjhdpkoaaGreatDoorZoam
import Derived.Test.YtfkhlbhjhdpkoaaGreatDoorZoan
import Derived.Test.YtfkhlbhjhdpkoaaGreatDoorZoao
import Derived.Test.YtfkhlbhjhdpkoaaGreatDoorZoat
import Derived.Test.YtfkhlbhjhdpkoaaGreatDoorZoau
import Derived.Test.YtfkhlbhjhdpkoaaGreatDoorZoay
set_option linter.unusedVariables false
set_option linter.unusedSimpArgs false

