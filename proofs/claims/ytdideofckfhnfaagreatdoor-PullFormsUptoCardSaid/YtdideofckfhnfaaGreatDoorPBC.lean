import Derived.Test.YtdideofckfhnfaaGreatDoorPBB
import Derived.Test.YtdideofckfhnfaaGreatDoorPAY
import Derived.Test.YtdideofckfhnfaaGreatDoorPAU
set_option linter.all false
namespace Go.Tev
section
section
variable{pg:Pg}
end
end
section
section
variable{pg:Pg}
end
end
section
def uses(q:aO)(n:Nat):Prop:=n=q.value.toNat\/n∈(WI q).map Int.toNat
end
section
end
section
section
variable{pg:Pg}
end
end
section
section
variable{pg:Pg}
end
end
end Go.Tev
