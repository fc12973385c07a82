import Derived.Test.YtagdhpkdbdilaaaGreatDoorIBG
set_option linter.all false
section
set_option maxRecDepth 100000
namespace Go.Proofs
open Go.Tev
theorem mE2:aB (aC pgS (aD []) 400) 51 mA2=some mR2:=by kernel_rfl
theorem mE6:aB (aC pgS (aD []) 400) 51 mA6=some mR6:=by kernel_rfl
theorem aWo:aB (aC pgS (aD []) 400) 51 aPh=some aIW:=by kernel_rfl
theorem aWh:aB (aC pgS (aD []) 400) 51 aPa=some aIP:=by kernel_rfl
theorem aVY:aB (aC pgS (aD []) 400) 51 aOR=some aIG:=by kernel_rfl
theorem aVP:aB (aC pgS (aD []) 400) 51 aOI=some aIx:=by kernel_rfl
theorem aVF:aB (aC pgS (aD []) 400) 51 aOy=some aIn:=by kernel_rfl
theorem aVs:aB (aC pgS (aD []) 400) 51 aOl=some aIa:=by kernel_rfl
theorem aVn:aB (aC pgS (aD []) 400) 96 aOg=some aHV:=by kernel_rfl
theorem aVj:aB (aC pgS (aD []) 400) 96 aOc=some aHR:=by kernel_rfl
theorem aVf:aB (aC pgS (aD []) 400) 96 aNY=some aHN:=by kernel_rfl
theorem aVa:aB (aC pgS (aD []) 400) 715 aNT=some aHI:=by kernel_rfl
theorem aUW:aB (aC pgS (aD []) 400) 715 aNP=some aHE:=by kernel_rfl
theorem aNq:aB (aC pgS (aD []) 400) 837 aBG=some VS:=by kernel_rfl
theorem aNh:aB (aC pgS (aD []) 400) 51 aBx=some VJ:=by kernel_rfl
theorem aMY:aB (aC pgS (aD []) 400) 96 aBo=some VA:=by kernel_rfl
theorem aMH:aB (aC pgS (aD []) 400) 828 aAX=some UT:=by kernel_rfl
theorem aMs:aB (aC pgS (aD []) 400) 828 aAI=some UE:=by kernel_rfl
theorem aMo:aB (aC pgS (aD []) 400) 828 aAE=some UA:=by kernel_rfl
theorem aMk:aB (aC pgS (aD []) 400) 828 aAA=some T6:=by kernel_rfl
theorem aMb:aB (aC pgS (aD []) 400) 51 aAr=some TR:=by kernel_rfl
theorem aLS:aB (aC pgS (aD []) 400) 96 aAi=some TH:=by kernel_rfl
theorem aLq:aB (aC pgS (aD []) 400) 828 ZQ=some SP:=by kernel_rfl
theorem aLm:aB (aC pgS (aD []) 400) 828 ZM=some SL:=by kernel_rfl
theorem aLi:aB (aC pgS (aD []) 400) 828 ZI=some SH:=by kernel_rfl
theorem aLa:aB (aC pgS (aD []) 400) 51 ZA=some R8:=by kernel_rfl
theorem aKH:aB (aC pgS (aD []) 400) 837 YR=some RP:=by kernel_rfl
theorem aKq:aB (aC pgS (aD []) 400) 828 YA=some Q8:=by kernel_rfl
theorem aKd:aB (aC pgS (aD []) 400) 828 XW=some QV:=by kernel_rfl
theorem aJK:aB (aC pgS (aD []) 400) 837 W7=some QC:=by kernel_rfl
theorem aWq:aB (aC pgS (aD aH) 400) 492 aPj=some aIY:=by kernel_rfl
theorem aWi:aB (aC pgS (aD aH) 400) 492 aPb=some aIQ:=by kernel_rfl
theorem aWa:aB (aC pgS (aD aH) 400) 492 aOT=some aII:=by kernel_rfl
theorem aVU:aB (aC pgS (aD aH) 400) 475 aON=some aIC:=by kernel_rfl
theorem aVM:aB (aC pgS (aD aH) 400) 492 aOF=some aIu:=by kernel_rfl
theorem aVG:aB (aC pgS (aD aH) 400) 475 aOz=some aIo:=by kernel_rfl
theorem aVB:aB (aC pgS (aD aH) 400) 475 aOu=some aIj:=by kernel_rfl
theorem aVv:aB (aC pgS (aD aH) 400) 492 aOo=some aId:=by kernel_rfl
theorem aUV:aB (aC pgS (aD aH) 400) 475 aNO=some aHD:=by kernel_rfl
theorem aUR:aB (aC pgS (aD aH) 400) 475 aNK=some aHz:=by kernel_rfl
theorem aUN:aB (aC pgS (aD aH) 400) 475 aNG=some aHv:=by kernel_rfl
theorem aUI:aB (aC pgS (aD aH) 400) 475 aNB=some aHq:=by kernel_rfl
theorem aNx:aB (aC pgS (aD aH) 400) 475 aBN=some VZ:=by kernel_rfl
theorem aNs:aB (aC pgS (aD aH) 400) 475 aBI=some VU:=by kernel_rfl
theorem aNd:aB (aC pgS (aD aH) 400) 475 aBt=some VF:=by kernel_rfl
theorem aMU:aB (aC pgS (aD aH) 400) 475 aBk=some U6:=by kernel_rfl
theorem aMQ:aB (aC pgS (aD aH) 400) 475 aBg=some U2:=by kernel_rfl
theorem aML:aB (aC pgS (aD aH) 400) 475 aBb=some UX:=by kernel_rfl
theorem aMF:aB (aC pgS (aD aH) 400) 475 aAV=some UR:=by kernel_rfl
theorem aMB:aB (aC pgS (aD aH) 400) 475 aAR=some UN:=by kernel_rfl
theorem aMx:aB (aC pgS (aD aH) 400) 475 aAN=some UJ:=by kernel_rfl
theorem aMa:aB (aC pgS (aD aH) 400) 492 aAq=some TQ:=by kernel_rfl
theorem aLU:aB (aC pgS (aD aH) 400) 492 aAk=some TJ:=by kernel_rfl
theorem aLN:aB (aC pgS (aD aH) 400) 475 aAd=some TC:=by kernel_rfl
theorem aLJ:aB (aC pgS (aD aH) 400) 475 Z9=some S8:=by kernel_rfl
theorem aLF:aB (aC pgS (aD aH) 400) 475 Z5=some S4:=by kernel_rfl
theorem aLA:aB (aC pgS (aD aH) 400) 475 Z0=some SZ:=by kernel_rfl
theorem aLw:aB (aC pgS (aD aH) 400) 475 ZW=some SV:=by kernel_rfl
theorem aLr:aB (aC pgS (aD aH) 400) 475 ZR=some SQ:=by kernel_rfl
theorem aKV:aB (aC pgS (aD aH) 400) 812 Y5=some R3:=by kernel_rfl
theorem aKR:aB (aC pgS (aD aH) 400) 475 Y1=some RZ:=by kernel_rfl
theorem aKD:aB (aC pgS (aD aH) 400) 492 YN=some RL:=by kernel_rfl
theorem aKu:aB (aC pgS (aD aH) 400) 812 YE=some RC:=by kernel_rfl
theorem aKi:aB (aC pgS (aD aH) 400) 475 X2=some Q0:=by kernel_rfl
theorem aJW:aB (aC pgS (aD aH) 400) 812 XL=some QO:=by kernel_rfl
theorem aMh:aB (aC pgS (aD kC) 400) 860 aAx=some TX:=by kernel_rfl
theorem aKn:aB (aC pgS (aD kC) 400) 860 X7=some Q5:=by kernel_rfl
theorem aJH:aB (aC pgS (aD kC) 400) 860 W4=some P9:=by kernel_rfl
theorem aKP:aB (aC pgS (aD kB) 400) 834 YZ=some RX:=by kernel_rfl
theorem aJU:aB (aC pgS (aD kB) 400) 834 XJ=some QM:=by kernel_rfl
theorem aMe:aB (aC pgS (aD jM) 400) 791 aAu=some TU:=by kernel_rfl
theorem aKv:aB (aC pgS (aD jM) 400) 791 YF=some RD:=by kernel_rfl
theorem aJN:aB (aC pgS (aD jM) 400) 791 XA=some QF:=by kernel_rfl
end Go.Proofs
end
