/- Nothing. -/
import Derived.Test.YtfkhlbhjhdpkoaaGreatDoorZrao
import Derived.Test.YtfkhlbhjhdpkoaaGreatDoorZrap
import Derived.Test.YtfkhlbhjhdpkoaaGreatDoorZraq
import Derived.Test.YtfkhlbhjhdpkoaaGreatDoorZras
import Derived.Test.YtfkhlbhjhdpkoaaGreatDoorZrat
import Derived.Test.YtfkhlbhjhdpkoaaGreatDoorZraw
set_option linter.unusedVariables false
set_option linter.unusedSimpArgs false

