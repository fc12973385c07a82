import Derived.Test.YtilkdbbkkcnocaaGreatDoorSBA
import Derived.Test.YtilkdbbkkcnocaaGreatDoorSAX
import Derived.Test.YtilkdbbkkcnocaaGreatDoorSAT
set_option linter.all false
namespace Go.Tev
section
section
variable{pg:Pg}
end
end
section
section
variable{pg:Pg}
end
end
section
def uses(q:aK)(n:Nat):Prop:=n=q.value.toNat\/n∈(fG q).map Int.toNat
end
section
end
section
section
variable{pg:Pg}
end
end
section
section
variable{pg:Pg}
end
end
end Go.Tev
