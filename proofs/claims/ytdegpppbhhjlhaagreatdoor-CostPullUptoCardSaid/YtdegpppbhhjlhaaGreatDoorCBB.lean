import Derived.Test.YtdegpppbhhjlhaaGreatDoorCBA
import Derived.Test.YtdegpppbhhjlhaaGreatDoorCAX
import Derived.Test.YtdegpppbhhjlhaaGreatDoorCAT
set_option linter.all false
namespace Go.Tev
section
section
variable{pg:Pg}
end
end
section
section
variable{pg:Pg}
end
end
section
def uses(q:aK)(n:Nat):Prop:=n=q.value.toNat\/n∈(fF q).map Int.toNat
end
section
end
section
section
variable{pg:Pg}
end
end
section
section
variable{pg:Pg}
end
end
end Go.Tev
