import Derived.Test.YtdpdokigjeaaiaaGreatDoorRMn
import Derived.Test.YtdpdokigjeaaiaaGreatDoorNIn
set_option linter.all false
section
namespace Go.Tev
section
variable {pg:Pg}
end
end Go.Tev
end
section
namespace Go.Tev
section
variable {pg:Pg}
end
end Go.Tev
end
