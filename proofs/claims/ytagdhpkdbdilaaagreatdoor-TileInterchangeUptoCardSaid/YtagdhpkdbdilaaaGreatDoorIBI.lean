import Derived.Test.YtagdhpkdbdilaaaGreatDoorIBG
set_option linter.all false
section
set_option maxRecDepth 100000
namespace Go.Proofs
open Go.Tev
theorem mE1:aB (aC pgS (aD []) 400) 51 mA1=some mR1:=by kernel_rfl
theorem mE5:aB (aC pgS (aD []) 400) 96 mA5=some mR5:=by kernel_rfl
theorem aWr:aB (aC pgS (aD []) 400) 51 aPk=some aIZ:=by kernel_rfl
theorem aWj:aB (aC pgS (aD []) 400) 51 aPc=some aIR:=by kernel_rfl
theorem aWb:aB (aC pgS (aD []) 400) 51 aOU=some aIJ:=by kernel_rfl
theorem aVR:aB (aC pgS (aD []) 400) 51 aOK=some aIz:=by kernel_rfl
theorem aVJ:aB (aC pgS (aD []) 400) 51 aOC=some aIr:=by kernel_rfl
theorem aVu:aB (aC pgS (aD []) 400) 51 aOn=some aIc:=by kernel_rfl
theorem aVo:aB (aC pgS (aD []) 400) 96 aOh=some aHW:=by kernel_rfl
theorem aVk:aB (aC pgS (aD []) 400) 96 aOd=some aHS:=by kernel_rfl
theorem aVg:aB (aC pgS (aD []) 400) 96 aNZ=some aHO:=by kernel_rfl
theorem aVb:aB (aC pgS (aD []) 400) 715 aNU=some aHJ:=by kernel_rfl
theorem aUX:aB (aC pgS (aD []) 400) 715 aNQ=some aHF:=by kernel_rfl
theorem aNr:aB (aC pgS (aD []) 400) 837 aBH=some VT:=by kernel_rfl
theorem aNj:aB (aC pgS (aD []) 400) 51 aBz=some VL:=by kernel_rfl
theorem aMZ:aB (aC pgS (aD []) 400) 96 aBp=some VB:=by kernel_rfl
theorem aMM:aB (aC pgS (aD []) 400) 51 aBc=some UY:=by kernel_rfl
theorem aMt:aB (aC pgS (aD []) 400) 828 aAJ=some UF:=by kernel_rfl
theorem aMp:aB (aC pgS (aD []) 400) 828 aAF=some UB:=by kernel_rfl
theorem aMl:aB (aC pgS (aD []) 400) 828 aAB=some T7:=by kernel_rfl
theorem aMd:aB (aC pgS (aD []) 400) 51 aAt=some TT:=by kernel_rfl
theorem aLT:aB (aC pgS (aD []) 400) 96 aAj=some TI:=by kernel_rfl
theorem aLt:aB (aC pgS (aD []) 400) 51 ZT=some SS:=by kernel_rfl
theorem aLn:aB (aC pgS (aD []) 400) 828 ZN=some SM:=by kernel_rfl
theorem aLj:aB (aC pgS (aD []) 400) 828 ZJ=some SI:=by kernel_rfl
theorem aLf:aB (aC pgS (aD []) 400) 828 ZF=some SE:=by kernel_rfl
theorem aKI:aB (aC pgS (aD []) 400) 837 YS=some RQ:=by kernel_rfl
theorem aKr:aB (aC pgS (aD []) 400) 828 YB=some Q9:=by kernel_rfl
theorem aKe:aB (aC pgS (aD []) 400) 828 XY=some QW:=by kernel_rfl
theorem aJL:aB (aC pgS (aD []) 400) 837 W8=some QD:=by kernel_rfl
theorem mE8:aB (aC pgS (aD aH) 400) 475 mA8=some mR8:=by kernel_rfl
theorem aWl:aB (aC pgS (aD aH) 400) 492 aPe=some aIT:=by kernel_rfl
theorem aWc:aB (aC pgS (aD aH) 400) 492 aOV=some aIK:=by kernel_rfl
theorem aVV:aB (aC pgS (aD aH) 400) 492 aOO=some aID:=by kernel_rfl
theorem aVN:aB (aC pgS (aD aH) 400) 492 aOG=some aIv:=by kernel_rfl
theorem aVH:aB (aC pgS (aD aH) 400) 475 aOA=some aIp:=by kernel_rfl
theorem aVC:aB (aC pgS (aD aH) 400) 475 aOv=some aIk:=by kernel_rfl
theorem aVw:aB (aC pgS (aD aH) 400) 492 aOp=some aIe:=by kernel_rfl
theorem aVe:aB (aC pgS (aD aH) 400) 812 aNX=some aHM:=by kernel_rfl
theorem aUS:aB (aC pgS (aD aH) 400) 475 aNL=some aHA:=by kernel_rfl
theorem aUO:aB (aC pgS (aD aH) 400) 475 aNH=some aHw:=by kernel_rfl
theorem aUK:aB (aC pgS (aD aH) 400) 475 aND=some aHs:=by kernel_rfl
theorem aNy:aB (aC pgS (aD aH) 400) 475 aBO=some V0:=by kernel_rfl
theorem aNu:aB (aC pgS (aD aH) 400) 475 aBK=some VW:=by kernel_rfl
theorem aNf:aB (aC pgS (aD aH) 400) 492 aBv=some VH:=by kernel_rfl
theorem aMX:aB (aC pgS (aD aH) 400) 812 aBn=some U9:=by kernel_rfl
theorem aMR:aB (aC pgS (aD aH) 400) 475 aBh=some U3:=by kernel_rfl
theorem aMN:aB (aC pgS (aD aH) 400) 475 aBd=some UZ:=by kernel_rfl
theorem aMI:aB (aC pgS (aD aH) 400) 475 aAY=some UU:=by kernel_rfl
theorem aMC:aB (aC pgS (aD aH) 400) 475 aAS=some UO:=by kernel_rfl
theorem aMy:aB (aC pgS (aD aH) 400) 475 aAO=some UK:=by kernel_rfl
theorem aMc:aB (aC pgS (aD aH) 400) 475 aAs=some TS:=by kernel_rfl
theorem aLV:aB (aC pgS (aD aH) 400) 492 aAl=some TK:=by kernel_rfl
theorem aLO:aB (aC pgS (aD aH) 400) 475 aAe=some TD:=by kernel_rfl
theorem aLK:aB (aC pgS (aD aH) 400) 475 aAa=some S9:=by kernel_rfl
theorem aLG:aB (aC pgS (aD aH) 400) 475 Z6=some S5:=by kernel_rfl
theorem aLB:aB (aC pgS (aD aH) 400) 475 Z1=some S0:=by kernel_rfl
theorem aLx:aB (aC pgS (aD aH) 400) 475 ZX=some SW:=by kernel_rfl
theorem aLs:aB (aC pgS (aD aH) 400) 475 ZS=some SR:=by kernel_rfl
theorem aKX:aB (aC pgS (aD aH) 400) 492 Y7=some R5:=by kernel_rfl
theorem aKS:aB (aC pgS (aD aH) 400) 475 Y2=some R0:=by kernel_rfl
theorem aKK:aB (aC pgS (aD aH) 400) 475 YU=some RS:=by kernel_rfl
theorem aKz:aB (aC pgS (aD aH) 400) 475 YJ=some RH:=by kernel_rfl
theorem aKj:aB (aC pgS (aD aH) 400) 812 X3=some Q1:=by kernel_rfl
theorem aKf:aB (aC pgS (aD aH) 400) 475 XZ=some QX:=by kernel_rfl
theorem aNn:aB (aC pgS (aD kC) 400) 860 aBD=some VP:=by kernel_rfl
theorem aKy:aB (aC pgS (aD kC) 400) 860 YI=some RG:=by kernel_rfl
theorem aJQ:aB (aC pgS (aD kC) 400) 860 XE=some QI:=by kernel_rfl
theorem aLd:aB (aC pgS (aD kB) 400) 834 ZD=some SC:=by kernel_rfl
theorem aJZ:aB (aC pgS (aD kB) 400) 834 XP=some QR:=by kernel_rfl
theorem aNk:aB (aC pgS (aD jM) 400) 791 aBA=some VM:=by kernel_rfl
theorem aKE:aB (aC pgS (aD jM) 400) 791 YO=some RM:=by kernel_rfl
theorem aJS:aB (aC pgS (aD jM) 400) 791 XH=some QK:=by kernel_rfl
theorem F9:aB (aC pgS (aD P4) 400) 743 []=some (.bool true):=by kernel_rfl
end Go.Proofs
end
