import Derived.Test.YtagdhpkdbdilaaaGreatDoorIBD
import Derived.Test.YtagdhpkdbdilaaaGreatDoorIAX
import Derived.Test.YtagdhpkdbdilaaaGreatDoorIAT
set_option linter.all false
namespace Go.Tev
section
section
variable{pg:Pg}
end
end
section
section
variable{pg:Pg}
end
end
section
def uses(q:aQ)(n:Nat):Prop:=n=q.value.toNat\/n∈(aEt q).map Int.toNat
end
section
end
section
section
variable{pg:Pg}
end
end
section
section
variable{pg:Pg}
end
end
end Go.Tev
