import Derived.Test.YtagdhpkdbdilaaaGreatDoorIBG
set_option linter.all false
section
set_option maxRecDepth 100000
namespace Go.Proofs
open Go.Tev
theorem mE0:aB (aC pgS (aD []) 400) 51 mA0=some mR0:=by kernel_rfl
theorem mE4:aB (aC pgS (aD []) 400) 51 mA4=some mR4:=by kernel_rfl
theorem mE9:aB (aC pgS (aD []) 400) 51 mA9=some mR9:=by kernel_rfl
theorem aWk:aB (aC pgS (aD []) 400) 51 aPd=some aIS:=by kernel_rfl
theorem aWd:aB (aC pgS (aD []) 400) 51 aOW=some aIL:=by kernel_rfl
theorem aVT:aB (aC pgS (aD []) 400) 51 aOM=some aIB:=by kernel_rfl
theorem aVL:aB (aC pgS (aD []) 400) 51 aOE=some aIt:=by kernel_rfl
theorem aVx:aB (aC pgS (aD []) 400) 51 aOq=some aIf:=by kernel_rfl
theorem aVp:aB (aC pgS (aD []) 400) 96 aOi=some aHX:=by kernel_rfl
theorem aVl:aB (aC pgS (aD []) 400) 96 aOe=some aHT:=by kernel_rfl
theorem aVh:aB (aC pgS (aD []) 400) 96 aOa=some aHP:=by kernel_rfl
theorem aVc:aB (aC pgS (aD []) 400) 828 aNV=some aHK:=by kernel_rfl
theorem aUY:aB (aC pgS (aD []) 400) 715 aNR=some aHG:=by kernel_rfl
theorem aNt:aB (aC pgS (aD []) 400) 51 aBJ=some VV:=by kernel_rfl
theorem aNo:aB (aC pgS (aD []) 400) 837 aBE=some VQ:=by kernel_rfl
theorem aNc:aB (aC pgS (aD []) 400) 51 aBs=some VE:=by kernel_rfl
theorem aMV:aB (aC pgS (aD []) 400) 51 aBl=some U7:=by kernel_rfl
theorem aMv:aB (aC pgS (aD []) 400) 51 aAL=some UH:=by kernel_rfl
theorem aMq:aB (aC pgS (aD []) 400) 828 aAG=some UC:=by kernel_rfl
theorem aMm:aB (aC pgS (aD []) 400) 828 aAC=some T8:=by kernel_rfl
theorem aMi:aB (aC pgS (aD []) 400) 828 aAy=some TY:=by kernel_rfl
theorem aLW:aB (aC pgS (aD []) 400) 51 aAm=some TL:=by kernel_rfl
theorem aLD:aB (aC pgS (aD []) 400) 828 Z3=some S2:=by kernel_rfl
theorem aLo:aB (aC pgS (aD []) 400) 828 ZO=some SN:=by kernel_rfl
theorem aLk:aB (aC pgS (aD []) 400) 828 ZK=some SJ:=by kernel_rfl
theorem aLg:aB (aC pgS (aD []) 400) 828 ZG=some SF:=by kernel_rfl
theorem aKJ:aB (aC pgS (aD []) 400) 837 YT=some RR:=by kernel_rfl
theorem aKC:aB (aC pgS (aD []) 400) 96 YM=some RK:=by kernel_rfl
theorem aKo:aB (aC pgS (aD []) 400) 828 X8=some Q6:=by kernel_rfl
theorem aKb:aB (aC pgS (aD []) 400) 828 XS=some QT:=by kernel_rfl
theorem aJI:aB (aC pgS (aD []) 400) 837 W5=some QA:=by kernel_rfl
theorem aWn:aB (aC pgS (aD aH) 400) 475 aPg=some aIV:=by kernel_rfl
theorem aWe:aB (aC pgS (aD aH) 400) 492 aOX=some aIM:=by kernel_rfl
theorem aVW:aB (aC pgS (aD aH) 400) 492 aOP=some aIE:=by kernel_rfl
theorem aVQ:aB (aC pgS (aD aH) 400) 492 aOJ=some aIy:=by kernel_rfl
theorem aVI:aB (aC pgS (aD aH) 400) 492 aOB=some aIq:=by kernel_rfl
theorem aVD:aB (aC pgS (aD aH) 400) 492 aOw=some aIl:=by kernel_rfl
theorem aVy:aB (aC pgS (aD aH) 400) 492 aOr=some aIg:=by kernel_rfl
theorem aVr:aB (aC pgS (aD aH) 400) 492 aOk=some aHZ:=by kernel_rfl
theorem aUT:aB (aC pgS (aD aH) 400) 475 aNM=some aHB:=by kernel_rfl
theorem aUP:aB (aC pgS (aD aH) 400) 475 aNI=some aHx:=by kernel_rfl
theorem aUL:aB (aC pgS (aD aH) 400) 475 aNE=some aHt:=by kernel_rfl
theorem aUG:aB (aC pgS (aD aH) 400) 475 aNz=some aHo:=by kernel_rfl
theorem aNv:aB (aC pgS (aD aH) 400) 475 aBL=some VX:=by kernel_rfl
theorem aNg:aB (aC pgS (aD aH) 400) 492 aBw=some VI:=by kernel_rfl
theorem aNa:aB (aC pgS (aD aH) 400) 492 aBq=some VC:=by kernel_rfl
theorem aMS:aB (aC pgS (aD aH) 400) 475 aBi=some U4:=by kernel_rfl
theorem aMO:aB (aC pgS (aD aH) 400) 475 aBe=some U0:=by kernel_rfl
theorem aMJ:aB (aC pgS (aD aH) 400) 475 aAZ=some UV:=by kernel_rfl
theorem aMD:aB (aC pgS (aD aH) 400) 475 aAT=some UP:=by kernel_rfl
theorem aMz:aB (aC pgS (aD aH) 400) 475 aAP=some UL:=by kernel_rfl
theorem aMu:aB (aC pgS (aD aH) 400) 475 aAK=some UG:=by kernel_rfl
theorem aLX:aB (aC pgS (aD aH) 400) 475 aAn=some TM:=by kernel_rfl
theorem aLP:aB (aC pgS (aD aH) 400) 475 aAf=some TE:=by kernel_rfl
theorem aLL:aB (aC pgS (aD aH) 400) 475 aAb=some TA:=by kernel_rfl
theorem aLH:aB (aC pgS (aD aH) 400) 475 Z7=some S6:=by kernel_rfl
theorem aLC:aB (aC pgS (aD aH) 400) 475 Z2=some S1:=by kernel_rfl
theorem aLy:aB (aC pgS (aD aH) 400) 475 ZY=some SX:=by kernel_rfl
theorem aLu:aB (aC pgS (aD aH) 400) 475 ZU=some ST:=by kernel_rfl
theorem aKY:aB (aC pgS (aD aH) 400) 492 Y8=some R6:=by kernel_rfl
theorem aKT:aB (aC pgS (aD aH) 400) 475 Y3=some R1:=by kernel_rfl
theorem aKL:aB (aC pgS (aD aH) 400) 475 YV=some RT:=by kernel_rfl
theorem aKA:aB (aC pgS (aD aH) 400) 475 YK=some RI:=by kernel_rfl
theorem aKs:aB (aC pgS (aD aH) 400) 475 YC=some RA:=by kernel_rfl
theorem aKg:aB (aC pgS (aD aH) 400) 475 X0=some QY:=by kernel_rfl
theorem aJM:aB (aC pgS (aD aH) 400) 812 W9=some QE:=by kernel_rfl
theorem aKQ:aB (aC pgS (aD kC) 400) 860 Y0=some RY:=by kernel_rfl
theorem aJV:aB (aC pgS (aD kC) 400) 860 XK=some QN:=by kernel_rfl
theorem aMg:aB (aC pgS (aD kB) 400) 834 aAw=some TW:=by kernel_rfl
theorem aKm:aB (aC pgS (aD kB) 400) 834 X6=some Q4:=by kernel_rfl
theorem aJG:aB (aC pgS (aD kB) 400) 834 W3=some P8:=by kernel_rfl
theorem aKN:aB (aC pgS (aD jM) 400) 791 YX=some RV:=by kernel_rfl
theorem aJX:aB (aC pgS (aD jM) 400) 791 XM=some QP:=by kernel_rfl
theorem aJD:aB (aC pgS (aD D1) 400) 751 W0=some P5:=by kernel_rfl
end Go.Proofs
end
