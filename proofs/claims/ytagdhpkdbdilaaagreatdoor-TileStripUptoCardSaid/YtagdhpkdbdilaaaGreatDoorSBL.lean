import Derived.Test.YtagdhpkdbdilaaaGreatDoorSBI
set_option linter.all false
section
set_option maxRecDepth 100000
namespace Go.Proofs
open Go.Tev
theorem mE2:aB (aC pgS (aD []) 400) 51 mA2=some mR2:=by kernel_rfl
theorem mE6:aB (aC pgS (aD []) 400) 51 mA6=some mR6:=by kernel_rfl
theorem aZs:aB (aC pgS (aD []) 400) 51 aRX=some aLM:=by kernel_rfl
theorem aZl:aB (aC pgS (aD []) 400) 51 aRQ=some aLF:=by kernel_rfl
theorem aZc:aB (aC pgS (aD []) 400) 51 aRH=some aLw:=by kernel_rfl
theorem aYT:aB (aC pgS (aD []) 400) 51 aRy=some aLn:=by kernel_rfl
theorem aYJ:aB (aC pgS (aD []) 400) 51 aRo=some aLd:=by kernel_rfl
theorem aYw:aB (aC pgS (aD []) 400) 51 aRb=some aKQ:=by kernel_rfl
theorem aYr:aB (aC pgS (aD []) 400) 96 aQW=some aKL:=by kernel_rfl
theorem aYn:aB (aC pgS (aD []) 400) 96 aQS=some aKH:=by kernel_rfl
theorem aYj:aB (aC pgS (aD []) 400) 96 aQO=some aKD:=by kernel_rfl
theorem aYe:aB (aC pgS (aD []) 400) 715 aQJ=some aKy:=by kernel_rfl
theorem aYa:aB (aC pgS (aD []) 400) 715 aQF=some aKu:=by kernel_rfl
theorem aQg:aB (aC pgS (aD []) 400) 837 aEz=some Z8:=by kernel_rfl
theorem aPX:aB (aC pgS (aD []) 400) 51 aEq=some ZZ:=by kernel_rfl
theorem aPO:aB (aC pgS (aD []) 400) 96 aEh=some ZQ:=by kernel_rfl
theorem aPx:aB (aC pgS (aD []) 400) 828 aDQ=some Y9:=by kernel_rfl
theorem aPi:aB (aC pgS (aD []) 400) 828 aDB=some YU:=by kernel_rfl
theorem aPe:aB (aC pgS (aD []) 400) 828 aDx=some YQ:=by kernel_rfl
theorem aPa:aB (aC pgS (aD []) 400) 828 aDt=some YM:=by kernel_rfl
theorem aOR:aB (aC pgS (aD []) 400) 51 aDk=some YD:=by kernel_rfl
theorem aOI:aB (aC pgS (aD []) 400) 96 aDb=some X4:=by kernel_rfl
theorem aOg:aB (aC pgS (aD []) 400) 828 aCz=some W5:=by kernel_rfl
theorem aOc:aB (aC pgS (aD []) 400) 828 aCv=some W1:=by kernel_rfl
theorem aNY:aB (aC pgS (aD []) 400) 828 aCr=some WW:=by kernel_rfl
theorem aNQ:aB (aC pgS (aD []) 400) 51 aCj=some WL:=by kernel_rfl
theorem aNx:aB (aC pgS (aD []) 400) 837 aBQ=some V2:=by kernel_rfl
theorem aNg:aB (aC pgS (aD []) 400) 828 aBz=some VL:=by kernel_rfl
theorem aMT:aB (aC pgS (aD []) 400) 828 aBm=some U8:=by kernel_rfl
theorem aMA:aB (aC pgS (aD []) 400) 837 aAT=some UP:=by kernel_rfl
theorem aZu:aB (aC pgS (aD aH) 400) 492 aRZ=some aLO:=by kernel_rfl
theorem aZm:aB (aC pgS (aD aH) 400) 492 aRR=some aLG:=by kernel_rfl
theorem aZe:aB (aC pgS (aD aH) 400) 492 aRJ=some aLy:=by kernel_rfl
theorem aYY:aB (aC pgS (aD aH) 400) 475 aRD=some aLs:=by kernel_rfl
theorem aYQ:aB (aC pgS (aD aH) 400) 492 aRv=some aLk:=by kernel_rfl
theorem aYK:aB (aC pgS (aD aH) 400) 475 aRp=some aLe:=by kernel_rfl
theorem aYF:aB (aC pgS (aD aH) 400) 475 aRk=some aKZ:=by kernel_rfl
theorem aYz:aB (aC pgS (aD aH) 400) 492 aRe=some aKT:=by kernel_rfl
theorem aXZ:aB (aC pgS (aD aH) 400) 475 aQE=some aKt:=by kernel_rfl
theorem aXV:aB (aC pgS (aD aH) 400) 475 aQA=some aKp:=by kernel_rfl
theorem aXR:aB (aC pgS (aD aH) 400) 475 aQw=some aKl:=by kernel_rfl
theorem aXM:aB (aC pgS (aD aH) 400) 475 aQr=some aKg:=by kernel_rfl
theorem aQn:aB (aC pgS (aD aH) 400) 475 aEG=some aAf:=by kernel_rfl
theorem aQi:aB (aC pgS (aD aH) 400) 475 aEB=some aAa:=by kernel_rfl
theorem aPT:aB (aC pgS (aD aH) 400) 475 aEm=some ZV:=by kernel_rfl
theorem aPK:aB (aC pgS (aD aH) 400) 475 aEd=some ZM:=by kernel_rfl
theorem aPG:aB (aC pgS (aD aH) 400) 475 aDZ=some ZI:=by kernel_rfl
theorem aPB:aB (aC pgS (aD aH) 400) 475 aDU=some ZD:=by kernel_rfl
theorem aPv:aB (aC pgS (aD aH) 400) 475 aDO=some Y7:=by kernel_rfl
theorem aPr:aB (aC pgS (aD aH) 400) 475 aDK=some Y3:=by kernel_rfl
theorem aPn:aB (aC pgS (aD aH) 400) 475 aDG=some YZ:=by kernel_rfl
theorem aOQ:aB (aC pgS (aD aH) 400) 492 aDj=some YC:=by kernel_rfl
theorem aOK:aB (aC pgS (aD aH) 400) 492 aDd=some X6:=by kernel_rfl
theorem aOD:aB (aC pgS (aD aH) 400) 475 aCW=some XZ:=by kernel_rfl
theorem aOz:aB (aC pgS (aD aH) 400) 475 aCS=some XS:=by kernel_rfl
theorem aOv:aB (aC pgS (aD aH) 400) 475 aCO=some XM:=by kernel_rfl
theorem aOq:aB (aC pgS (aD aH) 400) 475 aCJ=some XH:=by kernel_rfl
theorem aOm:aB (aC pgS (aD aH) 400) 475 aCF=some XB:=by kernel_rfl
theorem aOh:aB (aC pgS (aD aH) 400) 475 aCA=some W6:=by kernel_rfl
theorem aNL:aB (aC pgS (aD aH) 400) 812 aCe=some WG:=by kernel_rfl
theorem aNH:aB (aC pgS (aD aH) 400) 475 aCa=some WC:=by kernel_rfl
theorem aNt:aB (aC pgS (aD aH) 400) 492 aBM=some VY:=by kernel_rfl
theorem aNk:aB (aC pgS (aD aH) 400) 812 aBD=some VP:=by kernel_rfl
theorem aMY:aB (aC pgS (aD aH) 400) 475 aBr=some VD:=by kernel_rfl
theorem aMM:aB (aC pgS (aD aH) 400) 812 aBf=some U1:=by kernel_rfl
theorem aOX:aB (aC pgS (aD lD) 400) 860 aDq=some YJ:=by kernel_rfl
theorem aNd:aB (aC pgS (aD lD) 400) 860 aBw=some VI:=by kernel_rfl
theorem aMx:aB (aC pgS (aD lD) 400) 860 aAQ=some UM:=by kernel_rfl
theorem aNF:aB (aC pgS (aD lC) 400) 834 aBY=some WA:=by kernel_rfl
theorem aMK:aB (aC pgS (aD lC) 400) 834 aBd=some UZ:=by kernel_rfl
theorem aOU:aB (aC pgS (aD kI) 400) 791 aDn=some YG:=by kernel_rfl
theorem aNl:aB (aC pgS (aD kI) 400) 791 aBE=some VQ:=by kernel_rfl
theorem aMD:aB (aC pgS (aD kI) 400) 791 aAW=some US:=by kernel_rfl
end Go.Proofs
end
