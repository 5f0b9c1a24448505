/- Nothing. -/
import Derived.Test.YtjgimofnepechaaGreatDoorZaj
import Derived.Test.YtjgimofnepechaaGreatDoorZan
import Derived.Test.YtjgimofnepechaaGreatDoorZao
import Derived.Test.YtjgimofnepechaaGreatDoorZaq
set_option linter.unusedVariables false
set_option linter.unusedSimpArgs false

