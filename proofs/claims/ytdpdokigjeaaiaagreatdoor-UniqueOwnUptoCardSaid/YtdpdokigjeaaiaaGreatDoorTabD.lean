import Derived.Test.YtdpdokigjeaaiaaGreatDoorEvD
set_option linter.all false
section
set_option maxRecDepth 100000
namespace Go.Tev
def cf443M0:List Bool:=[N,Y,N,N,N,N,N,N,Y,N,N,N,N,N,N,N,N,N,N,N,N,N,N,N,Y,Y,Y,N,N,N,N,N,N,N,N,N,N,N,N,N,N,N,N,N,N,N,N,N,N,N,N,N,N,N]
def cf443L0:C:=(.seq (.reg [vR 27 bLs 26 25] N) (.seq (.cond (.t 27) .skip (.exit 0)) (.seq (.block 1 (.seq (.reg [mR 28 26,vR 29 (.iad 1 false none) 24 26,uR 30 ld1 29,mR 9 28,mR 10 30] N) (.seq (.seq (.reg [mR 31 1,mR 32 9,vR 33 (.iad 1 false none) 31 32,uR 34 ld1 33,wR 35 bLs 34 i0,mR 36 35,mFR 37 1 36,mFR 38 9 36,vFR 39 (.iad 1 false none) 37 38 36,uFR 40 ld1 39 36,mFR 41 10 36,vFR 42 (.bin .geq) 40 41 36,qR 43 36 42] N) (.cond (.t 43) (.seq (.reg [cR 4 i0,cR 5 (.int .i64 2)] N) .ret) .skip)) (.reg [mR 44 8,mR 45 10,vR 46 (.bin .mul) 44 45,mR 47 1,mR 48 9,vR 49 (.iad 1 false none) 47 48,uR 50 ld1 49,vR 51 bAd 46 50,mR 8 51] N)))) (.reg [wR 52 bAd 26 i1,mR 26 52] N))))
def cf443:CF:=⟨2,54,[.inl 4,.inl 5],(.seq (.reg [cR 4 i0,cR 5 i0] N) (.seq (.seq (.reg [mR 12 0,usR 13 (.call 355 false false) 12 1,mR 11 13,uR 14 (.ext 0) 11,uR 15 (.ext 1) 11,mR 6 14,mR 7 15] N) (.seq (.reg [mR 16 7,wR 17 (.bin .neq) 16 i0] N) (.cond (.t 17) (.seq (.reg [mR 18 7,cR 4 i0,mR 5 18] N) .ret) .skip))) (.seq (.seq (.reg [mR 19 1,uR 20 ln1 19,mR 21 0,uR 22 ln1 21,vR 23 (.bin .neq) 20 22] N) (.cond (.t 23) (.seq (.reg [cR 4 i0,cR 5 (.int .i64 13)] N) .ret) .skip)) (.seq (.reg [cR 8 i0] N) (.seq (.seq (.reg [mR 24 0,uR 25 ln1 24,cR 26 i0] N) (.block 0 (.loop cf443L0 cf443M0))) (.seq (.reg [mR 53 8,mR 4 53,cR 5 i0] N) .ret))))))⟩
def cf444:CF:=⟨1,4,[.inl 2],(.seq (.reg [cR 2 i0] N) (.seq (.seq (.reg [mR 3 0] N) (.cond (.t 3) (.seq (.reg [cR 2 i1] N) .ret) .skip)) (.seq (.reg [cR 2 i0] N) .ret)))⟩
end Go.Tev
end
