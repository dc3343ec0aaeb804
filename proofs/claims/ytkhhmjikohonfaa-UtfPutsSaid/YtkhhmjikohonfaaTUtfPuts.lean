/- UtfPuts, plainly. -/
import Derived.Test.YtkhhmjikohonfaaTV
