import Derived.Test.YtagdhpkdbdilaaaGreatDoorSBD
import Derived.Test.YtagdhpkdbdilaaaGreatDoorSAX
import Derived.Test.YtagdhpkdbdilaaaGreatDoorSAT
set_option linter.all false
namespace Go.Tev
section
section
variable{pg:Pg}
end
end
section
section
variable{pg:Pg}
end
end
section
def uses(q:aX)(n:Nat):Prop:=n=q.value.toNat\/n∈(aHm q).map Int.toNat
end
section
end
section
section
variable{pg:Pg}
end
end
section
section
variable{pg:Pg}
end
end
end Go.Tev
