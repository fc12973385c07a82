import Derived.Test.YtdpdokigjeaaiaaGreatDoorRLn
import Derived.Test.YtdpdokigjeaaiaaGreatDoorNHn
import Derived.Test.YtdpdokigjeaaiaaGreatDoorNGn
set_option linter.all false
section
namespace Go.Tev
section
variable {pg:Pg}
end
end Go.Tev
end
section
namespace Go.Tev
def sRead (v:Int) (i:Int) (l:List Int) (s:Sp):Sp:=if l.any (fun w=>decide (w=v)) then (s.1,i) else s
def sVal (v:Int) (i:Int) (q:Kernel) (s:Sp):Sp:=if decide (q.value=v) then (if decide (s.1 = -2) then i else s.1,i) else s
def sKer (v:Int) (i:Int) (q:Kernel) (s:Sp):Sp:=sRead v i (refsR q) (sVal v i q s)
def s0 (k:Kernels) (v:Int):Sp:=if decide (v < k.inputs) then (-1,-1) else (-2,-2)
section
variable {pg:Pg}
end
end Go.Tev
end
