import Derived.Test.YtagdhpkdbdilaaaGreatDoorSBI
set_option linter.all false
section
set_option maxRecDepth 100000
namespace Go.Proofs
open Go.Tev
theorem mE0:aB (aC pgS (aD []) 400) 51 mA0=some mR0:=by kernel_rfl
theorem mE4:aB (aC pgS (aD []) 400) 51 mA4=some mR4:=by kernel_rfl
theorem mE9:aB (aC pgS (aD []) 400) 51 mA9=some mR9:=by kernel_rfl
theorem aZo:aB (aC pgS (aD []) 400) 51 aRT=some aLI:=by kernel_rfl
theorem aZh:aB (aC pgS (aD []) 400) 51 aRM=some aLB:=by kernel_rfl
theorem aYX:aB (aC pgS (aD []) 400) 51 aRC=some aLr:=by kernel_rfl
theorem aYP:aB (aC pgS (aD []) 400) 51 aRu=some aLj:=by kernel_rfl
theorem aYB:aB (aC pgS (aD []) 400) 51 aRg=some aKV:=by kernel_rfl
theorem aYt:aB (aC pgS (aD []) 400) 96 aQY=some aKN:=by kernel_rfl
theorem aYp:aB (aC pgS (aD []) 400) 96 aQU=some aKJ:=by kernel_rfl
theorem aYl:aB (aC pgS (aD []) 400) 96 aQQ=some aKF:=by kernel_rfl
theorem aYg:aB (aC pgS (aD []) 400) 828 aQL=some aKA:=by kernel_rfl
theorem aYc:aB (aC pgS (aD []) 400) 715 aQH=some aKw:=by kernel_rfl
theorem aQj:aB (aC pgS (aD []) 400) 51 aEC=some aAb:=by kernel_rfl
theorem aQe:aB (aC pgS (aD []) 400) 837 aEx=some Z6:=by kernel_rfl
theorem aPS:aB (aC pgS (aD []) 400) 51 aEl=some ZU:=by kernel_rfl
theorem aPL:aB (aC pgS (aD []) 400) 51 aEe=some ZN:=by kernel_rfl
theorem aPl:aB (aC pgS (aD []) 400) 51 aDE=some YX:=by kernel_rfl
theorem aPg:aB (aC pgS (aD []) 400) 828 aDz=some YS:=by kernel_rfl
theorem aPc:aB (aC pgS (aD []) 400) 828 aDv=some YO:=by kernel_rfl
theorem aOY:aB (aC pgS (aD []) 400) 828 aDr=some YK:=by kernel_rfl
theorem aOM:aB (aC pgS (aD []) 400) 51 aDf=some X8:=by kernel_rfl
theorem aOt:aB (aC pgS (aD []) 400) 828 aCM=some XK:=by kernel_rfl
theorem aOe:aB (aC pgS (aD []) 400) 828 aCx=some W3:=by kernel_rfl
theorem aOa:aB (aC pgS (aD []) 400) 828 aCt=some WZ:=by kernel_rfl
theorem aNW:aB (aC pgS (aD []) 400) 828 aCp=some WU:=by kernel_rfl
theorem aNz:aB (aC pgS (aD []) 400) 837 aBS=some V4:=by kernel_rfl
theorem aNs:aB (aC pgS (aD []) 400) 96 aBL=some VX:=by kernel_rfl
theorem aNe:aB (aC pgS (aD []) 400) 828 aBx=some VJ:=by kernel_rfl
theorem aMR:aB (aC pgS (aD []) 400) 828 aBk=some U6:=by kernel_rfl
theorem aMy:aB (aC pgS (aD []) 400) 837 aAR=some UN:=by kernel_rfl
theorem aZr:aB (aC pgS (aD aH) 400) 475 aRW=some aLL:=by kernel_rfl
theorem aZi:aB (aC pgS (aD aH) 400) 492 aRN=some aLC:=by kernel_rfl
theorem aZa:aB (aC pgS (aD aH) 400) 492 aRF=some aLu:=by kernel_rfl
theorem aYU:aB (aC pgS (aD aH) 400) 492 aRz=some aLo:=by kernel_rfl
theorem aYM:aB (aC pgS (aD aH) 400) 492 aRr=some aLg:=by kernel_rfl
theorem aYH:aB (aC pgS (aD aH) 400) 492 aRm=some aLb:=by kernel_rfl
theorem aYC:aB (aC pgS (aD aH) 400) 492 aRh=some aKW:=by kernel_rfl
theorem aYv:aB (aC pgS (aD aH) 400) 492 aRa=some aKP:=by kernel_rfl
theorem aXX:aB (aC pgS (aD aH) 400) 475 aQC=some aKr:=by kernel_rfl
theorem aXT:aB (aC pgS (aD aH) 400) 475 aQy=some aKn:=by kernel_rfl
theorem aXP:aB (aC pgS (aD aH) 400) 475 aQu=some aKj:=by kernel_rfl
theorem aXK:aB (aC pgS (aD aH) 400) 475 aQp=some aKe:=by kernel_rfl
theorem aQl:aB (aC pgS (aD aH) 400) 475 aEE=some aAd:=by kernel_rfl
theorem aPW:aB (aC pgS (aD aH) 400) 492 aEp=some ZY:=by kernel_rfl
theorem aPQ:aB (aC pgS (aD aH) 400) 492 aEj=some ZS:=by kernel_rfl
theorem aPI:aB (aC pgS (aD aH) 400) 475 aEb=some ZK:=by kernel_rfl
theorem aPE:aB (aC pgS (aD aH) 400) 475 aDX=some ZG:=by kernel_rfl
theorem aPz:aB (aC pgS (aD aH) 400) 475 aDS=some ZB:=by kernel_rfl
theorem aPt:aB (aC pgS (aD aH) 400) 475 aDM=some Y5:=by kernel_rfl
theorem aPp:aB (aC pgS (aD aH) 400) 475 aDI=some Y1:=by kernel_rfl
theorem aPk:aB (aC pgS (aD aH) 400) 475 aDD=some YW:=by kernel_rfl
theorem aON:aB (aC pgS (aD aH) 400) 475 aDg=some X9:=by kernel_rfl
theorem aOF:aB (aC pgS (aD aH) 400) 475 aCY=some X1:=by kernel_rfl
theorem aOB:aB (aC pgS (aD aH) 400) 475 aCU=some XW:=by kernel_rfl
theorem aOx:aB (aC pgS (aD aH) 400) 475 aCQ=some XP:=by kernel_rfl
theorem aOs:aB (aC pgS (aD aH) 400) 475 aCL=some XJ:=by kernel_rfl
theorem aOo:aB (aC pgS (aD aH) 400) 475 aCH=some XE:=by kernel_rfl
theorem aOk:aB (aC pgS (aD aH) 400) 475 aCD=some W9:=by kernel_rfl
theorem aNO:aB (aC pgS (aD aH) 400) 492 aCh=some WJ:=by kernel_rfl
theorem aNJ:aB (aC pgS (aD aH) 400) 475 aCc=some WE:=by kernel_rfl
theorem aNB:aB (aC pgS (aD aH) 400) 475 aBU=some V6:=by kernel_rfl
theorem aNq:aB (aC pgS (aD aH) 400) 475 aBJ=some VV:=by kernel_rfl
theorem aNi:aB (aC pgS (aD aH) 400) 475 aBB=some VN:=by kernel_rfl
theorem aMW:aB (aC pgS (aD aH) 400) 475 aBp=some VB:=by kernel_rfl
theorem aMC:aB (aC pgS (aD aH) 400) 812 aAV=some UR:=by kernel_rfl
theorem aNG:aB (aC pgS (aD lD) 400) 860 aBZ=some WB:=by kernel_rfl
theorem aML:aB (aC pgS (aD lD) 400) 860 aBe=some U0:=by kernel_rfl
theorem aOW:aB (aC pgS (aD lC) 400) 834 aDp=some YI:=by kernel_rfl
theorem aNc:aB (aC pgS (aD lC) 400) 834 aBv=some VH:=by kernel_rfl
theorem aMw:aB (aC pgS (aD lC) 400) 834 aAP=some UL:=by kernel_rfl
theorem aND:aB (aC pgS (aD kI) 400) 791 aBW=some V8:=by kernel_rfl
theorem aMN:aB (aC pgS (aD kI) 400) 791 aBg=some U2:=by kernel_rfl
theorem aMt:aB (aC pgS (aD G3) 400) 751 aAM=some UI:=by kernel_rfl
end Go.Proofs
end
