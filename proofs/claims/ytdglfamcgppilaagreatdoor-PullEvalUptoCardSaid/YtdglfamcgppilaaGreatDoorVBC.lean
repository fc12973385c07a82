import Derived.Test.YtdglfamcgppilaaGreatDoorVBB
import Derived.Test.YtdglfamcgppilaaGreatDoorVAY
import Derived.Test.YtdglfamcgppilaaGreatDoorVAU
set_option linter.all false
namespace Go.Tev
section
section
variable{pg:Pg}
end
end
section
section
variable{pg:Pg}
end
end
section
def uses(q:aX)(n:Nat):Prop:=n=q.value.toNat\/n∈(aDt q).map Int.toNat
end
section
end
section
section
variable{pg:Pg}
end
end
section
section
variable{pg:Pg}
end
end
end Go.Tev
