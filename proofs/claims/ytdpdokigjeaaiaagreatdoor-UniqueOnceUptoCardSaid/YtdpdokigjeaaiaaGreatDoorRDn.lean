import Derived.Test.YtdpdokigjeaaiaaGreatDoorNGn
import Derived.Test.YtdpdokigjeaaiaaGreatDoorNHn
import Derived.Test.YtdpdokigjeaaiaaGreatDoorRAn
set_option linter.all false
section
namespace Go.Tev
end Go.Tev
end
section
namespace Go.Tev
theorem loopF {α : Type} {es d r:List α} {x : α} (hes:es=d++x :: r) (hb:es.length≤big) :
  es[d.length]?=some x∧decide ((d.length:Int) < (es.length:Int))=true∧((d.length:Int) < (es.length:Int))=True∧wr .i64 ((d.length:Int)+1)=((d++[x]).length:Int):=by
 have h:d.length < es.length:=by rw [hes];simp
 refine ⟨by rw [hes];simp,by simp;omega,eq_true (by omega),wr_mid (r:=r) (by rw [← hes];exact hb)⟩
theorem ltSelf (n:Nat):decide ((n:Int) < (n:Int))=false:=by simp
section
variable {pg:Pg}
end
end Go.Tev
end
section
namespace Go.Tev
section
variable {pg:Pg}
end
end Go.Tev
end
