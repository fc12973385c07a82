import Derived.Test.YtagdhpkdbdilaaaGreatDoorSBI
set_option linter.all false
section
set_option maxRecDepth 100000
namespace Go.Proofs
open Go.Tev
theorem mE3:aB (aC pgS (aD []) 400) 51 mA3=some mR3:=by kernel_rfl
theorem mE7:aB (aC pgS (aD []) 400) 96 mA7=some mR7:=by kernel_rfl
theorem aZq:aB (aC pgS (aD []) 400) 51 aRV=some aLK:=by kernel_rfl
theorem aZk:aB (aC pgS (aD []) 400) 51 aRP=some aLE:=by kernel_rfl
theorem aZb:aB (aC pgS (aD []) 400) 51 aRG=some aLv:=by kernel_rfl
theorem aYS:aB (aC pgS (aD []) 400) 51 aRx=some aLm:=by kernel_rfl
theorem aYE:aB (aC pgS (aD []) 400) 51 aRj=some aKY:=by kernel_rfl
theorem aYu:aB (aC pgS (aD []) 400) 96 aQZ=some aKO:=by kernel_rfl
theorem aYq:aB (aC pgS (aD []) 400) 96 aQV=some aKK:=by kernel_rfl
theorem aYm:aB (aC pgS (aD []) 400) 96 aQR=some aKG:=by kernel_rfl
theorem aYh:aB (aC pgS (aD []) 400) 826 aQM=some aKB:=by kernel_rfl
theorem aYd:aB (aC pgS (aD []) 400) 715 aQI=some aKx:=by kernel_rfl
theorem aXN:aB (aC pgS (aD []) 400) 828 aQs=some aKh:=by kernel_rfl
theorem aQf:aB (aC pgS (aD []) 400) 837 aEy=some Z7:=by kernel_rfl
theorem aPU:aB (aC pgS (aD []) 400) 51 aEn=some ZW:=by kernel_rfl
theorem aPM:aB (aC pgS (aD []) 400) 828 aEf=some ZO:=by kernel_rfl
theorem aPw:aB (aC pgS (aD []) 400) 51 aDP=some Y8:=by kernel_rfl
theorem aPh:aB (aC pgS (aD []) 400) 828 aDA=some YT:=by kernel_rfl
theorem aPd:aB (aC pgS (aD []) 400) 828 aDw=some YP:=by kernel_rfl
theorem aOZ:aB (aC pgS (aD []) 400) 828 aDs=some YL:=by kernel_rfl
theorem aOO:aB (aC pgS (aD []) 400) 51 aDh=some YA:=by kernel_rfl
theorem aOG:aB (aC pgS (aD []) 400) 828 aCZ=some X2:=by kernel_rfl
theorem aOf:aB (aC pgS (aD []) 400) 828 aCy=some W4:=by kernel_rfl
theorem aOb:aB (aC pgS (aD []) 400) 828 aCu=some W0:=by kernel_rfl
theorem aNX:aB (aC pgS (aD []) 400) 828 aCq=some WV:=by kernel_rfl
theorem aNM:aB (aC pgS (aD []) 400) 96 aCf=some WH:=by kernel_rfl
theorem aNw:aB (aC pgS (aD []) 400) 837 aBP=some V1:=by kernel_rfl
theorem aNf:aB (aC pgS (aD []) 400) 828 aBy=some VK:=by kernel_rfl
theorem aMS:aB (aC pgS (aD []) 400) 828 aBl=some U7:=by kernel_rfl
theorem aMz:aB (aC pgS (aD []) 400) 837 aAS=some UO:=by kernel_rfl
theorem aZt:aB (aC pgS (aD aH) 400) 492 aRY=some aLN:=by kernel_rfl
theorem aZj:aB (aC pgS (aD aH) 400) 492 aRO=some aLD:=by kernel_rfl
theorem aZd:aB (aC pgS (aD aH) 400) 475 aRI=some aLx:=by kernel_rfl
theorem aYW:aB (aC pgS (aD aH) 400) 492 aRB=some aLq:=by kernel_rfl
theorem aYO:aB (aC pgS (aD aH) 400) 492 aRt=some aLi:=by kernel_rfl
theorem aYI:aB (aC pgS (aD aH) 400) 492 aRn=some aLc:=by kernel_rfl
theorem aYD:aB (aC pgS (aD aH) 400) 492 aRi=some aKX:=by kernel_rfl
theorem aYx:aB (aC pgS (aD aH) 400) 492 aRc=some aKR:=by kernel_rfl
theorem aXY:aB (aC pgS (aD aH) 400) 475 aQD=some aKs:=by kernel_rfl
theorem aXU:aB (aC pgS (aD aH) 400) 475 aQz=some aKo:=by kernel_rfl
theorem aXQ:aB (aC pgS (aD aH) 400) 475 aQv=some aKk:=by kernel_rfl
theorem aXL:aB (aC pgS (aD aH) 400) 475 aQq=some aKf:=by kernel_rfl
theorem aQm:aB (aC pgS (aD aH) 400) 475 aEF=some aAe:=by kernel_rfl
theorem aPY:aB (aC pgS (aD aH) 400) 475 aEr=some Z0:=by kernel_rfl
theorem aPR:aB (aC pgS (aD aH) 400) 492 aEk=some ZT:=by kernel_rfl
theorem aPJ:aB (aC pgS (aD aH) 400) 475 aEc=some ZL:=by kernel_rfl
theorem aPF:aB (aC pgS (aD aH) 400) 475 aDY=some ZH:=by kernel_rfl
theorem aPA:aB (aC pgS (aD aH) 400) 475 aDT=some ZC:=by kernel_rfl
theorem aPu:aB (aC pgS (aD aH) 400) 475 aDN=some Y6:=by kernel_rfl
theorem aPq:aB (aC pgS (aD aH) 400) 475 aDJ=some Y2:=by kernel_rfl
theorem aPm:aB (aC pgS (aD aH) 400) 475 aDF=some YY:=by kernel_rfl
theorem aOP:aB (aC pgS (aD aH) 400) 492 aDi=some YB:=by kernel_rfl
theorem aOH:aB (aC pgS (aD aH) 400) 812 aDa=some X3:=by kernel_rfl
theorem aOC:aB (aC pgS (aD aH) 400) 475 aCV=some XY:=by kernel_rfl
theorem aOy:aB (aC pgS (aD aH) 400) 475 aCR=some XQ:=by kernel_rfl
theorem aOu:aB (aC pgS (aD aH) 400) 475 aCN=some XL:=by kernel_rfl
theorem aOp:aB (aC pgS (aD aH) 400) 475 aCI=some XF:=by kernel_rfl
theorem aOl:aB (aC pgS (aD aH) 400) 475 aCE=some XA:=by kernel_rfl
theorem aNP:aB (aC pgS (aD aH) 400) 492 aCi=some WK:=by kernel_rfl
theorem aNK:aB (aC pgS (aD aH) 400) 475 aCd=some WF:=by kernel_rfl
theorem aNC:aB (aC pgS (aD aH) 400) 812 aBV=some V7:=by kernel_rfl
theorem aNr:aB (aC pgS (aD aH) 400) 812 aBK=some VW:=by kernel_rfl
theorem aNj:aB (aC pgS (aD aH) 400) 475 aBC=some VO:=by kernel_rfl
theorem aMX:aB (aC pgS (aD aH) 400) 475 aBq=some VC:=by kernel_rfl
theorem aMH:aB (aC pgS (aD aH) 400) 812 aBa=some UW:=by kernel_rfl
theorem aNU:aB (aC pgS (aD lD) 400) 860 aCn=some WQ:=by kernel_rfl
theorem aMQ:aB (aC pgS (aD lD) 400) 860 aBj=some U5:=by kernel_rfl
theorem aQc:aB (aC pgS (aD lC) 400) 834 aEv=some Z4:=by kernel_rfl
theorem aNn:aB (aC pgS (aD lC) 400) 834 aBG=some VS:=by kernel_rfl
theorem aMF:aB (aC pgS (aD lC) 400) 834 aAY=some UU:=by kernel_rfl
theorem aNR:aB (aC pgS (aD kI) 400) 791 aCk=some WM:=by kernel_rfl
theorem aNa:aB (aC pgS (aD kI) 400) 791 aBt=some VF:=by kernel_rfl
theorem aMu:aB (aC pgS (aD kI) 400) 791 aAN=some UJ:=by kernel_rfl
end Go.Proofs
end
