import Derived.Test.YtilkdbbkkcnocaaGreatDoorSAY
set_option linter.all false
namespace Go.Tev
section
section
variable{pg:Pg}
end
end
section
section
variable{pg:Pg}
end
end
end Go.Tev
