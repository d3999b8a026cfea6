/- All of the frame. -/
import Derived.Test.YtpkelhmjemcogaaAbsYd
