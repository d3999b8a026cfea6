/- All of the frame. -/
import Derived.Test.YtgicgbokgmmgdaaAbsYd
set_option linter.unusedVariables false
set_option linter.unusedSimpArgs false
