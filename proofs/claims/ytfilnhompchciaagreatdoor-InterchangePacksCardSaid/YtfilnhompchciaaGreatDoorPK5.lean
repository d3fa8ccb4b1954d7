import Derived.ChangeMaps5
import Derived.Test.YtfilnhompchciaaGreatDoorPK4
set_option linter.unusedVariables false
set_option maxHeartbeats 8000000
set_option maxRecDepth 100000
/- InterchangePacks: Pack returns the package of linkages, or the error, as the reference does; for every input the law returns true. The listed library variables are tied to the program text. -/
