import Derived.Test.YtmcadllokkmeiaaGreatDoorMAW
import Derived.Test.YtmcadllokkmeiaaGreatDoorMAX
import Derived.Test.YtmcadllokkmeiaaGreatDoorMAR
import Derived.Test.YtmcadllokkmeiaaGreatDoorMAT
set_option linter.all false
section
namespace Go.Tev
section
variable{pg:Pg}
end
end Go.Tev
end
section
namespace Go.Tev
section
variable{pg:Pg}
end
end Go.Tev
end
section
namespace Go.Tev
section
variable{pg:Pg}
theorem c53(hf:pg.fs 53=some cf53)(c:aZ)(v:Val):Ret pg 53 [v.av,.fp c.av] (.bool (decide (v.v.bs=c.v.bs))):=by
 refine Ret.ofX hf ?_
 unfold cf53
 simp only[go_sem,seval]
theorem mx2(a b:Int):(j6 max2 (.int .i64 a) [.int .i64 b]).bind val=val (.int .i64 (if a<b then b else a)):=by simp[j6,max2]
theorem mn2(a b:Int):(j6 min2 (.int .i64 a) [.int .i64 b]).bind val=val (.int .i64 (if b<a then b else a)):=by simp[j6,min2]
def C4(a n:Int):Int:=if 1099511627776<wr .i64 (n*(if a<0 then 0 else a)) then 1099511627776 else wr .i64 (n*(if a<0 then 0 else a))
end
end Go.Tev
end
section
namespace Go.Tev
section
variable{pg:Pg}
end
end Go.Tev
end
section
namespace Go.Tev
section
variable{pg:Pg}
end
end Go.Tev
end
section
namespace Go.Tev
section
variable{pg:Pg}
end
end Go.Tev
end
section
namespace Go.Tev
section
variable{pg:Pg}
end
end Go.Tev
end
section
namespace Go.Tev
section
variable{pg:Pg}
end
end Go.Tev
end
