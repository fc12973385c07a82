import Derived.Test.YtilkdbbkkcnocaaGreatDoorSAS
set_option linter.all false
section
namespace Go.Tev
section
variable{pg:Pg}
end
end Go.Tev
end
