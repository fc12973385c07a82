import Derived.Test.YtdpdokigjeaaiaaGreatDoorRDn
import Derived.Test.YtdpdokigjeaaiaaGreatDoorNCn
import Derived.Test.YtdpdokigjeaaiaaGreatDoorNFn
set_option linter.all false
section
namespace Go.Tev
section
variable {pg:Pg}
end
end Go.Tev
end
section
namespace Go.Tev
section
variable {pg:Pg}
end
end Go.Tev
end
section
namespace Go.Tev
section
variable {pg:Pg}
end
end Go.Tev
end
