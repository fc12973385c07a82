import Derived.Test.YtdideofckfhnfaaGreatDoorPAZ
set_option linter.all false
namespace Go.Tev
section
theorem D5(h:Hp)(nl cl:Bool)(n:Nat)(hn:n<256):yZ h [.sl nl [.int .u8 (n:Int)] cl]=some (.str [UInt8.ofNat n],.pat [] []):=by
 have h1:(0<=(n:Int)/\(n:Int)<=255):=by omega
 simp[yZ,aJ,aW,i8,AV.fits,AV.cells,aV,AV.one,h1]
section
variable{pg:Pg}
end
end
section
section
variable{pg:Pg}
end
end
end Go.Tev
