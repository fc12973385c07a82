import Derived.Test.YtagdhpkdbdilaaaGreatDoorSBI
set_option linter.all false
section
set_option maxRecDepth 100000
namespace Go.Proofs
open Go.Tev
theorem mE1:aB (aC pgS (aD []) 400) 51 mA1=some mR1:=by kernel_rfl
theorem mE5:aB (aC pgS (aD []) 400) 96 mA5=some mR5:=by kernel_rfl
theorem aZv:aB (aC pgS (aD []) 400) 51 aSa=some aLP:=by kernel_rfl
theorem aZn:aB (aC pgS (aD []) 400) 51 aRS=some aLH:=by kernel_rfl
theorem aZf:aB (aC pgS (aD []) 400) 51 aRK=some aLz:=by kernel_rfl
theorem aYV:aB (aC pgS (aD []) 400) 51 aRA=some aLp:=by kernel_rfl
theorem aYN:aB (aC pgS (aD []) 400) 51 aRs=some aLh:=by kernel_rfl
theorem aYy:aB (aC pgS (aD []) 400) 51 aRd=some aKS:=by kernel_rfl
theorem aYs:aB (aC pgS (aD []) 400) 96 aQX=some aKM:=by kernel_rfl
theorem aYo:aB (aC pgS (aD []) 400) 96 aQT=some aKI:=by kernel_rfl
theorem aYk:aB (aC pgS (aD []) 400) 96 aQP=some aKE:=by kernel_rfl
theorem aYf:aB (aC pgS (aD []) 400) 715 aQK=some aKz:=by kernel_rfl
theorem aYb:aB (aC pgS (aD []) 400) 715 aQG=some aKv:=by kernel_rfl
theorem aQh:aB (aC pgS (aD []) 400) 837 aEA=some Z9:=by kernel_rfl
theorem aPZ:aB (aC pgS (aD []) 400) 51 aEs=some Z1:=by kernel_rfl
theorem aPP:aB (aC pgS (aD []) 400) 96 aEi=some ZR:=by kernel_rfl
theorem aPC:aB (aC pgS (aD []) 400) 51 aDV=some ZE:=by kernel_rfl
theorem aPj:aB (aC pgS (aD []) 400) 828 aDC=some YV:=by kernel_rfl
theorem aPf:aB (aC pgS (aD []) 400) 828 aDy=some YR:=by kernel_rfl
theorem aPb:aB (aC pgS (aD []) 400) 828 aDu=some YN:=by kernel_rfl
theorem aOT:aB (aC pgS (aD []) 400) 51 aDm=some YF:=by kernel_rfl
theorem aOJ:aB (aC pgS (aD []) 400) 96 aDc=some X5:=by kernel_rfl
theorem aOj:aB (aC pgS (aD []) 400) 51 aCC=some W8:=by kernel_rfl
theorem aOd:aB (aC pgS (aD []) 400) 828 aCw=some W2:=by kernel_rfl
theorem aNZ:aB (aC pgS (aD []) 400) 828 aCs=some WY:=by kernel_rfl
theorem aNV:aB (aC pgS (aD []) 400) 828 aCo=some WS:=by kernel_rfl
theorem aNy:aB (aC pgS (aD []) 400) 837 aBR=some V3:=by kernel_rfl
theorem aNh:aB (aC pgS (aD []) 400) 828 aBA=some VM:=by kernel_rfl
theorem aMU:aB (aC pgS (aD []) 400) 828 aBn=some U9:=by kernel_rfl
theorem aMB:aB (aC pgS (aD []) 400) 837 aAU=some UQ:=by kernel_rfl
theorem mE8:aB (aC pgS (aD aH) 400) 475 mA8=some mR8:=by kernel_rfl
theorem aZp:aB (aC pgS (aD aH) 400) 492 aRU=some aLJ:=by kernel_rfl
theorem aZg:aB (aC pgS (aD aH) 400) 492 aRL=some aLA:=by kernel_rfl
theorem aYZ:aB (aC pgS (aD aH) 400) 492 aRE=some aLt:=by kernel_rfl
theorem aYR:aB (aC pgS (aD aH) 400) 492 aRw=some aLl:=by kernel_rfl
theorem aYL:aB (aC pgS (aD aH) 400) 475 aRq=some aLf:=by kernel_rfl
theorem aYG:aB (aC pgS (aD aH) 400) 475 aRl=some aLa:=by kernel_rfl
theorem aYA:aB (aC pgS (aD aH) 400) 492 aRf=some aKU:=by kernel_rfl
theorem aYi:aB (aC pgS (aD aH) 400) 812 aQN=some aKC:=by kernel_rfl
theorem aXW:aB (aC pgS (aD aH) 400) 475 aQB=some aKq:=by kernel_rfl
theorem aXS:aB (aC pgS (aD aH) 400) 475 aQx=some aKm:=by kernel_rfl
theorem aXO:aB (aC pgS (aD aH) 400) 475 aQt=some aKi:=by kernel_rfl
theorem aQo:aB (aC pgS (aD aH) 400) 475 aEH=some aAg:=by kernel_rfl
theorem aQk:aB (aC pgS (aD aH) 400) 475 aED=some aAc:=by kernel_rfl
theorem aPV:aB (aC pgS (aD aH) 400) 492 aEo=some ZX:=by kernel_rfl
theorem aPN:aB (aC pgS (aD aH) 400) 812 aEg=some ZP:=by kernel_rfl
theorem aPH:aB (aC pgS (aD aH) 400) 475 aEa=some ZJ:=by kernel_rfl
theorem aPD:aB (aC pgS (aD aH) 400) 475 aDW=some ZF:=by kernel_rfl
theorem aPy:aB (aC pgS (aD aH) 400) 475 aDR=some ZA:=by kernel_rfl
theorem aPs:aB (aC pgS (aD aH) 400) 475 aDL=some Y4:=by kernel_rfl
theorem aPo:aB (aC pgS (aD aH) 400) 475 aDH=some Y0:=by kernel_rfl
theorem aOS:aB (aC pgS (aD aH) 400) 475 aDl=some YE:=by kernel_rfl
theorem aOL:aB (aC pgS (aD aH) 400) 492 aDe=some X7:=by kernel_rfl
theorem aOE:aB (aC pgS (aD aH) 400) 475 aCX=some X0:=by kernel_rfl
theorem aOA:aB (aC pgS (aD aH) 400) 475 aCT=some XU:=by kernel_rfl
theorem aOw:aB (aC pgS (aD aH) 400) 475 aCP=some XN:=by kernel_rfl
theorem aOr:aB (aC pgS (aD aH) 400) 475 aCK=some XI:=by kernel_rfl
theorem aOn:aB (aC pgS (aD aH) 400) 475 aCG=some XD:=by kernel_rfl
theorem aOi:aB (aC pgS (aD aH) 400) 475 aCB=some W7:=by kernel_rfl
theorem aNN:aB (aC pgS (aD aH) 400) 492 aCg=some WI:=by kernel_rfl
theorem aNI:aB (aC pgS (aD aH) 400) 475 aCb=some WD:=by kernel_rfl
theorem aNA:aB (aC pgS (aD aH) 400) 475 aBT=some V5:=by kernel_rfl
theorem aNp:aB (aC pgS (aD aH) 400) 475 aBI=some VU:=by kernel_rfl
theorem aMZ:aB (aC pgS (aD aH) 400) 812 aBs=some VE:=by kernel_rfl
theorem aMV:aB (aC pgS (aD aH) 400) 475 aBo=some VA:=by kernel_rfl
theorem aQd:aB (aC pgS (aD lD) 400) 860 aEw=some Z5:=by kernel_rfl
theorem aNo:aB (aC pgS (aD lD) 400) 860 aBH=some VT:=by kernel_rfl
theorem aMG:aB (aC pgS (aD lD) 400) 860 aAZ=some UV:=by kernel_rfl
theorem aNT:aB (aC pgS (aD lC) 400) 834 aCm=some WP:=by kernel_rfl
theorem aMP:aB (aC pgS (aD lC) 400) 834 aBi=some U4:=by kernel_rfl
theorem aQa:aB (aC pgS (aD kI) 400) 791 aEt=some Z2:=by kernel_rfl
theorem aNu:aB (aC pgS (aD kI) 400) 791 aBN=some VZ:=by kernel_rfl
theorem aMI:aB (aC pgS (aD kI) 400) 791 aBb=some UX:=by kernel_rfl
theorem JU:aB (aC pgS (aD UH) 400) 743 []=some (.bool true):=by kernel_rfl
end Go.Proofs
end
