import Derived.Test.YtapbonkiigealaaGreatDoorOAY
import Derived.Test.YtapbonkiigealaaGreatDoorOAO
set_option linter.all false
section
namespace Go.Tev
section
variable {pg:Pg}
end
end Go.Tev
end
