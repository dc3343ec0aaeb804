/- UtfJoins, plainly. -/
import Derived.Test.YtkhhmjikohonfaaTV
