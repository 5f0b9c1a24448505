/- Nothing. -/
import Derived.Test.YtfkhlbhjhdpkoaaGreatDoorZram
import Derived.Test.YtfkhlbhjhdpkoaaGreatDoorZran
import Derived.Test.YtfkhlbhjhdpkoaaGreatDoorZrao
import Derived.Test.YtfkhlbhjhdpkoaaGreatDoorZrat
import Derived.Test.YtfkhlbhjhdpkoaaGreatDoorZrau
import Derived.Test.YtfkhlbhjhdpkoaaGreatDoorZray
set_option linter.unusedVariables false
set_option linter.unusedSimpArgs false

