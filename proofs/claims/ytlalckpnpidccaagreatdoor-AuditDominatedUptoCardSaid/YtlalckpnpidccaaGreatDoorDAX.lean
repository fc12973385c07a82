import Derived.Test.YtlalckpnpidccaaGreatDoorDAW
import Derived.Test.YtlalckpnpidccaaGreatDoorDAT
import Derived.Test.YtlalckpnpidccaaGreatDoorDAR
set_option linter.all false
namespace Go.Tev
section
section
variable{pg:Pg}
end
end
section
section
variable{pg:Pg}
end
end
section
end
section
theorem jK:∀s:List UInt8,Op.bytesLess s s=false
 |[]=>rfl
 |c::r=>by simp only[Op.bytesLess,jK r,Bool.and_false,Bool.or_false,gO];exact UInt8.lt_irrefl c
section
variable{pg:Pg}
end
end
section
section
variable{pg:Pg}
end
end
section
section
variable{pg:Pg}
end
end
end Go.Tev
