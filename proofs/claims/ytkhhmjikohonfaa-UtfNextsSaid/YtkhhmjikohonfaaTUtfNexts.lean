/- UtfNexts, plainly. -/
import Derived.Test.YtkhhmjikohonfaaTV
