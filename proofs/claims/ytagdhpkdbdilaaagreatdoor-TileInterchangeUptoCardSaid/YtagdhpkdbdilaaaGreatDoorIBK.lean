import Derived.Test.YtagdhpkdbdilaaaGreatDoorIBG
set_option linter.all false
section
set_option maxRecDepth 100000
namespace Go.Proofs
open Go.Tev
theorem mE3:aB (aC pgS (aD []) 400) 51 mA3=some mR3:=by kernel_rfl
theorem mE7:aB (aC pgS (aD []) 400) 96 mA7=some mR7:=by kernel_rfl
theorem aWm:aB (aC pgS (aD []) 400) 51 aPf=some aIU:=by kernel_rfl
theorem aWg:aB (aC pgS (aD []) 400) 51 aOZ=some aIO:=by kernel_rfl
theorem aVX:aB (aC pgS (aD []) 400) 51 aOQ=some aIF:=by kernel_rfl
theorem aVO:aB (aC pgS (aD []) 400) 51 aOH=some aIw:=by kernel_rfl
theorem aVA:aB (aC pgS (aD []) 400) 51 aOt=some aIi:=by kernel_rfl
theorem aVq:aB (aC pgS (aD []) 400) 96 aOj=some aHY:=by kernel_rfl
theorem aVm:aB (aC pgS (aD []) 400) 96 aOf=some aHU:=by kernel_rfl
theorem aVi:aB (aC pgS (aD []) 400) 96 aOb=some aHQ:=by kernel_rfl
theorem aVd:aB (aC pgS (aD []) 400) 826 aNW=some aHL:=by kernel_rfl
theorem aUZ:aB (aC pgS (aD []) 400) 715 aNS=some aHH:=by kernel_rfl
theorem aUJ:aB (aC pgS (aD []) 400) 828 aNC=some aHr:=by kernel_rfl
theorem aNp:aB (aC pgS (aD []) 400) 837 aBF=some VR:=by kernel_rfl
theorem aNe:aB (aC pgS (aD []) 400) 51 aBu=some VG:=by kernel_rfl
theorem aMW:aB (aC pgS (aD []) 400) 828 aBm=some U8:=by kernel_rfl
theorem aMG:aB (aC pgS (aD []) 400) 51 aAW=some US:=by kernel_rfl
theorem aMr:aB (aC pgS (aD []) 400) 828 aAH=some UD:=by kernel_rfl
theorem aMn:aB (aC pgS (aD []) 400) 828 aAD=some T9:=by kernel_rfl
theorem aMj:aB (aC pgS (aD []) 400) 828 aAz=some TZ:=by kernel_rfl
theorem aLY:aB (aC pgS (aD []) 400) 51 aAo=some TN:=by kernel_rfl
theorem aLQ:aB (aC pgS (aD []) 400) 828 aAg=some TF:=by kernel_rfl
theorem aLp:aB (aC pgS (aD []) 400) 828 ZP=some SO:=by kernel_rfl
theorem aLl:aB (aC pgS (aD []) 400) 828 ZL=some SK:=by kernel_rfl
theorem aLh:aB (aC pgS (aD []) 400) 828 ZH=some SG:=by kernel_rfl
theorem aKW:aB (aC pgS (aD []) 400) 96 Y6=some R4:=by kernel_rfl
theorem aKG:aB (aC pgS (aD []) 400) 837 YQ=some RO:=by kernel_rfl
theorem aKp:aB (aC pgS (aD []) 400) 828 X9=some Q7:=by kernel_rfl
theorem aKc:aB (aC pgS (aD []) 400) 828 XU=some QU:=by kernel_rfl
theorem aJJ:aB (aC pgS (aD []) 400) 837 W6=some QB:=by kernel_rfl
theorem aWp:aB (aC pgS (aD aH) 400) 492 aPi=some aIX:=by kernel_rfl
theorem aWf:aB (aC pgS (aD aH) 400) 492 aOY=some aIN:=by kernel_rfl
theorem aVZ:aB (aC pgS (aD aH) 400) 475 aOS=some aIH:=by kernel_rfl
theorem aVS:aB (aC pgS (aD aH) 400) 492 aOL=some aIA:=by kernel_rfl
theorem aVK:aB (aC pgS (aD aH) 400) 492 aOD=some aIs:=by kernel_rfl
theorem aVE:aB (aC pgS (aD aH) 400) 492 aOx=some aIm:=by kernel_rfl
theorem aVz:aB (aC pgS (aD aH) 400) 492 aOs=some aIh:=by kernel_rfl
theorem aVt:aB (aC pgS (aD aH) 400) 492 aOm=some aIb:=by kernel_rfl
theorem aUU:aB (aC pgS (aD aH) 400) 475 aNN=some aHC:=by kernel_rfl
theorem aUQ:aB (aC pgS (aD aH) 400) 475 aNJ=some aHy:=by kernel_rfl
theorem aUM:aB (aC pgS (aD aH) 400) 475 aNF=some aHu:=by kernel_rfl
theorem aUH:aB (aC pgS (aD aH) 400) 475 aNA=some aHp:=by kernel_rfl
theorem aNw:aB (aC pgS (aD aH) 400) 475 aBM=some VY:=by kernel_rfl
theorem aNi:aB (aC pgS (aD aH) 400) 475 aBy=some VK:=by kernel_rfl
theorem aNb:aB (aC pgS (aD aH) 400) 492 aBr=some VD:=by kernel_rfl
theorem aMT:aB (aC pgS (aD aH) 400) 475 aBj=some U5:=by kernel_rfl
theorem aMP:aB (aC pgS (aD aH) 400) 475 aBf=some U1:=by kernel_rfl
theorem aMK:aB (aC pgS (aD aH) 400) 475 aBa=some UW:=by kernel_rfl
theorem aME:aB (aC pgS (aD aH) 400) 475 aAU=some UQ:=by kernel_rfl
theorem aMA:aB (aC pgS (aD aH) 400) 475 aAQ=some UM:=by kernel_rfl
theorem aMw:aB (aC pgS (aD aH) 400) 475 aAM=some UI:=by kernel_rfl
theorem aLZ:aB (aC pgS (aD aH) 400) 492 aAp=some TP:=by kernel_rfl
theorem aLR:aB (aC pgS (aD aH) 400) 812 aAh=some TG:=by kernel_rfl
theorem aLM:aB (aC pgS (aD aH) 400) 475 aAc=some TB:=by kernel_rfl
theorem aLI:aB (aC pgS (aD aH) 400) 475 Z8=some S7:=by kernel_rfl
theorem aLE:aB (aC pgS (aD aH) 400) 475 Z4=some S3:=by kernel_rfl
theorem aLz:aB (aC pgS (aD aH) 400) 475 ZZ=some SY:=by kernel_rfl
theorem aLv:aB (aC pgS (aD aH) 400) 475 ZV=some SU:=by kernel_rfl
theorem aKZ:aB (aC pgS (aD aH) 400) 492 Y9=some R7:=by kernel_rfl
theorem aKU:aB (aC pgS (aD aH) 400) 475 Y4=some R2:=by kernel_rfl
theorem aKM:aB (aC pgS (aD aH) 400) 812 YW=some RU:=by kernel_rfl
theorem aKB:aB (aC pgS (aD aH) 400) 812 YL=some RJ:=by kernel_rfl
theorem aKt:aB (aC pgS (aD aH) 400) 475 YD=some RB:=by kernel_rfl
theorem aKh:aB (aC pgS (aD aH) 400) 475 X1=some QZ:=by kernel_rfl
theorem aJR:aB (aC pgS (aD aH) 400) 812 XF=some QJ:=by kernel_rfl
theorem aLe:aB (aC pgS (aD kC) 400) 860 ZE=some SD:=by kernel_rfl
theorem aKa:aB (aC pgS (aD kC) 400) 860 XQ=some QS:=by kernel_rfl
theorem aNm:aB (aC pgS (aD kB) 400) 834 aBC=some VO:=by kernel_rfl
theorem aKx:aB (aC pgS (aD kB) 400) 834 YH=some RF:=by kernel_rfl
theorem aJP:aB (aC pgS (aD kB) 400) 834 XD=some QH:=by kernel_rfl
theorem aLb:aB (aC pgS (aD jM) 400) 791 ZB=some R9:=by kernel_rfl
theorem aKk:aB (aC pgS (aD jM) 400) 791 X4=some Q2:=by kernel_rfl
theorem aJE:aB (aC pgS (aD jM) 400) 791 W1=some P6:=by kernel_rfl
end Go.Proofs
end
