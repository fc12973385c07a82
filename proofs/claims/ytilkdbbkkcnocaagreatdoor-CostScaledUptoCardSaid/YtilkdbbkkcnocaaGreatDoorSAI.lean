import Derived.Test.YtilkdbbkkcnocaaGreatDoorSAH
set_option linter.all false
section
set_option maxRecDepth 100000
set_option maxHeartbeats 0
namespace Go.Tev
def dh0:Nat->K×Nat×Nat×Nat×Bool×Bool
 |0=>(.mov,1,1,0,N,N)
 |1=>(.mov,1,2,0,N,N)
 |2=>((.load 1 N),1,1,0,N,N)
 |3=>((.len 1),1,1,0,N,N)
 |4=>((.bin .add),2,2,0,N,N)
 |5=>(.pick,3,2,0,N,N)
 |6=>((.load 1 N),1,1,0,Y,N)
 |7=>((.fad 0 1 N),1,1,0,N,N)
 |8=>(.pick,3,1,0,N,N)
 |9=>((.bin .lss),2,1,0,N,N)
 |10=>(.mov,1,1,2,Y,N)
 |11=>(.mov,1,1,2,N,N)
 |12=>((.load 1 N),1,1,1,N,N)
 |13=>((.load 1 N),1,1,2,N,N)
 |14=>((.fad 1 1 N),1,1,0,N,N)
 |15=>((.bin .eql),2,2,0,N,N)
 |_=>(.bad,0,0,0,N,N)
def dh1:Nat->K×Nat×Nat×Nat×Bool×Bool
 |0=>(.mov,1,1,1,N,N)
 |1=>((.ext 0),1,1,0,N,N)
 |2=>(.box,1,1,0,N,Y)
 |3=>((.iad 1 N none),2,1,0,Y,N)
 |4=>((.iad 2 Y none),2,1,0,Y,N)
 |5=>((.ext 1),1,2,0,N,N)
 |6=>(.mov,1,1,0,Y,N)
 |7=>((.iad 2 Y none),2,1,0,N,N)
 |8=>((.bin .eql),2,1,0,N,N)
 |9=>((.bin .sub),2,2,0,N,N)
 |10=>((.load 9 Y),1,1,0,N,N)
 |11=>((.bin .lss),2,2,0,N,N)
 |12=>((.store 1 N),2,0,0,N,N)
 |13=>((.load 1 N),1,1,2,Y,N)
 |14=>((.load 1 N),1,2,0,N,N)
 |15=>((.bin .gtr),2,1,1,N,N)
 |_=>(.bad,0,0,0,N,N)
def dh2:Nat->K×Nat×Nat×Nat×Bool×Bool
 |0=>(.box,1,2,0,N,Y)
 |1=>((.load 1 N),1,1,1,Y,N)
 |2=>((.store 1 N),2,0,0,Y,N)
 |3=>((.fad 2 1 N),1,1,0,N,N)
 |4=>((.load 2 Y),1,1,0,Y,N)
 |5=>(.pick,3,1,0,Y,N)
 |6=>((.load 2 Y),1,1,0,N,N)
 |7=>((.store 4 Y),2,0,0,N,N)
 |8=>((.un .not),1,2,0,N,N)
 |9=>((.bin .eql),2,1,2,N,N)
 |10=>((.len 1),1,1,1,N,N)
 |11=>(.mov,1,2,0,Y,N)
 |12=>((.fad 3 1 N),1,1,0,N,N)
 |13=>((.iad 1 N none),2,1,0,N,N)
 |14=>((.bin .neq),2,1,0,N,N)
 |15=>((.un .not),1,1,0,N,N)
 |_=>(.bad,0,0,0,N,N)
def dh3:Nat->K×Nat×Nat×Nat×Bool×Bool
 |0=>(.mov,1,1,1,Y,N)
 |1=>((.store 2 Y),2,0,0,N,N)
 |2=>((.fad 8 1 N),1,1,0,N,N)
 |3=>((.bin .add),2,1,0,N,N)
 |4=>((.store 2 Y),2,0,0,Y,N)
 |5=>((.fad 1 1 N),1,1,2,N,N)
 |6=>((.fad 4 1 N),1,1,0,N,N)
 |7=>((.bin .geq),2,1,0,N,N)
 |8=>((.mkSl 1 N N),1,1,0,N,N)
 |9=>((.load 2 Y),1,2,0,N,N)
 |10=>((.len 1),1,1,2,N,N)
 |11=>((.bin .sub),2,1,0,N,N)
 |12=>((.fad 0 1 N),1,1,1,N,N)
 |13=>((.bin .gtr),2,1,0,N,N)
 |14=>((.iad 2 Y none),2,1,2,Y,N)
 |15=>((.fad 1 1 N),1,1,1,N,N)
 |_=>(.bad,0,0,0,N,N)
def dh4:Nat->K×Nat×Nat×Nat×Bool×Bool
 |0=>(.nilc,1,1,0,N,N)
 |1=>((.un .not),1,1,1,N,N)
 |2=>((.bin .geq),2,2,0,N,N)
 |3=>((.len 0),1,1,0,N,N)
 |4=>((.bin .add),2,1,0,Y,N)
 |5=>((.load 3 Y),1,1,0,N,N)
 |6=>(.nilc,1,1,0,Y,N)
 |7=>((.bin .eql),2,1,1,N,N)
 |8=>((.iad 1 N none),2,1,2,Y,N)
 |9=>((.build [(.str []),sN,(.str [])] [(0,1),(1,1),(2,1)]),3,1,0,N,N)
 |10=>((.bin .sub),2,1,0,Y,N)
 |11=>(.pick,3,2,0,Y,N)
 |12=>((.fad 1 1 N),1,1,1,Y,N)
 |13=>((.iad 9 Y none),2,1,0,N,N)
 |14=>((.load 2 Y),1,1,2,Y,N)
 |15=>((.bin .lss),2,1,1,N,N)
 |_=>(.bad,0,0,0,N,N)
def dh5:Nat->K×Nat×Nat×Nat×Bool×Bool
 |0=>((.bin .neq),2,2,0,N,N)
 |1=>((.bin .leq),2,1,2,N,N)
 |2=>((.load 9 Y),1,1,2,N,N)
 |3=>((.bin .mul),2,1,0,N,N)
 |4=>((.store 3 Y),2,0,0,N,N)
 |5=>((.load 6 Y),1,1,0,N,N)
 |6=>((.len 1),1,1,0,Y,N)
 |7=>((.fad 2 1 N),1,1,1,N,N)
 |8=>((.fad 0 1 N),1,1,2,N,N)
 |9=>((.fad 4 1 N),1,1,1,N,N)
 |10=>((.fad 3 1 N),1,1,1,N,N)
 |11=>((.bin .neq),2,1,1,N,N)
 |12=>((.bin .lss),2,1,2,N,N)
 |13=>((.load 4 Y),1,1,0,N,N)
 |14=>((.alloc [i0,sN] Y),0,2,0,N,Y)
 |15=>((.bin .leq),2,1,0,N,N)
 |_=>(.bad,0,0,0,N,N)
def dh6:Nat->K×Nat×Nat×Nat×Bool×Bool
 |0=>((.store 9 Y),2,0,0,N,N)
 |1=>((.ext 1),1,1,0,N,N)
 |2=>((.bin .and),2,1,0,N,N)
 |3=>((.load 9 Y),1,1,0,Y,N)
 |4=>((.un .not),1,1,2,Y,N)
 |5=>((.fad 0 1 N),1,1,2,Y,N)
 |6=>((.alloc [(.str []),i0,i0,(.str []),sN,bN,i0,sN,sN] Y),0,2,0,N,Y)
 |7=>((.bin .lss),2,1,2,Y,N)
 |8=>((.app 1 N 16),2,2,0,N,Y)
 |9=>(.ixs,2,1,0,N,N)
 |10=>((.bin .leq),2,1,0,Y,N)
 |11=>((.alloc [(.str []),i0] Y),0,2,0,N,Y)
 |12=>((.iad 3 Y none),2,1,0,N,N)
 |13=>((.un .not),1,1,2,N,N)
 |14=>((.callv N N),2,1,0,N,Y)
 |15=>((.fad 2 1 N),1,1,2,N,N)
 |_=>(.bad,0,0,0,N,N)
def dh7:Nat->K×Nat×Nat×Nat×Bool×Bool
 |0=>((.cvi .i32),1,1,0,N,N)
 |1=>((.load 23 Y),1,1,0,N,N)
 |2=>((.mkSl 2 Y N),1,1,0,N,N)
 |3=>((.bin .leq),2,2,0,N,N)
 |4=>((.cvi .u64),1,1,0,N,N)
 |5=>((.bin .lss),2,1,0,Y,N)
 |6=>(.pick,3,1,2,N,N)
 |7=>((.load 9 Y),1,2,0,N,N)
 |8=>((.fad 8 1 N),1,1,2,N,N)
 |9=>((.call 500 N N),2,1,2,Y,Y)
 |10=>((.bin .quo),2,1,0,N,N)
 |11=>((.fad 1 3 Y),1,1,0,N,N)
 |12=>((.callv N N),3,1,2,Y,Y)
 |13=>((.alloc [i0,i0,i0,i0] Y),0,1,0,N,Y)
 |14=>((.bin .sub),2,1,2,Y,N)
 |_=>(.bad,0,0,0,N,N)
def dhx:Nat->Nat->K×Nat×Nat×Nat×Bool×Bool
 |0,n=>dh0 n
 |1,n=>dh1 n
 |2,n=>dh2 n
 |3,n=>dh3 n
 |4,n=>dh4 n
 |5,n=>dh5 n
 |6,n=>dh6 n
 |7,n=>dh7 n
 |_,_=>(.bad,0,0,0,N,N)
def dh(n:Nat):K×Nat×Nat×Nat×Bool×Bool:=dhx (n / 16) (n % 16)
def dk0:Nat->K
 |0=>(.mkSl 1 N N)
 |1=>(.bin .gtr)
 |2=>(.bin .geq)
 |3=>(.bin .neq)
 |4=>(.fad 7 1 N)
 |5=>(.fad 0 1 N)
 |6=>(.un .not)
 |7 => .ixs
 |8=>(.callv N N)
 |9=>(.fad 13 1 N)
 |10=>(.fad 1 2 Y)
 |11=>(.fad 3 1 N)
 |12=>(.fad 6 1 N)
 |13=>(.iad 2 Y none)
 |14=>(.len 0)
 |15=>(.fad 4 1 N)
 |_ => .bad
def dk1:Nat->K
 |0=>(.fad 5 1 N)
 |1=>(.iad 3 Y none)
 |2=>(.iad 1 N none)
 |3=>(.bin .eql)
 |4=>(.bin .shr)
 |5=>(.bin .add)
 |6=>(.fad 14 9 Y)
 |7=>(.load 3 Y)
 |8=>(.len 1)
 |9=>(.fad 3 9 Y)
 |10 => .pick
 |11=>(.fad 0 6 Y)
 |12=>(.mkSl 2 Y N)
 |13=>(.load 24 Y)
 |14=>(.fad 1 1 N)
 |15 => .nilc
 |_ => .bad
def dk2:Nat->K
 |0=>(.iad 24 Y none)
 |1=>(.fad 2 1 N)
 |2=>(.load 2 Y)
 |3=>(.bin .shl)
 |4=>(.iad 5 Y none)
 |5=>(.build [i0,i0,i0,i0] [])
 |6=>(.ext 2)
 |7=>(.iad 1 N (some 3))
 |8=>(.alloc [i0,i0,i0,i0] Y)
 |9=>(.store 24 Y)
 |10=>(.alloc [i0,i0,sN,(.str []),i0,i0,(.str []),sN,bN,i0,sN,sN,sN,i0,(.str []),i0,i0,(.str []),sN,bN,i0,sN,sN,i0] Y)
 |11=>(.cvi .i64)
 |12=>(.sls Y N)
 |13=>(.build [(.str []),i0] [(0,1),(1,1)])
 |14=>(.fad 4 9 Y)
 |15=>(.alloc [sN,sN,bN,i0] Y)
 |_ => .bad
def dk3:Nat->K
 |0=>(.app 1 N 8)
 |1=>(.bin .mul)
 |2=>(.bin .or)
 |3=>(.fad 1 3 Y)
 |4=>(.load 4 Y)
 |5=>(.mkSl 4 Y N)
 |6 => .bad
 |7=>(.bin .sub)
 |8=>(.load 9 Y)
 |9=>(.fad 23 1 N)
 |10=>(.alloc [(.str []),i0,sN] Y)
 |11=>(.iad 9 Y none)
 |12=>(.app 2 Y 24)
 |13=>(.load 5 Y)
 |14 => .frz
 |15=>(.load 23 Y)
 |_ => .bad
def dk4:Nat->K
 |0=>(.store 4 Y)
 |1=>(.build [i0,i0] [(0,1),(1,1)])
 |2=>(.fad 12 1 N)
 |3=>(.cvi .u32)
 |4=>(.app 1 N 1)
 |5=>(.alloc [i0] N)
 |6=>(.store 23 Y)
 |7=>(.alloc [sN,i0,sN,bN,(.str []),i0,i0,(.str []),sN,bN,i0,sN,sN,i0,(.str []),i0,i0,(.str []),sN,bN,i0,sN,sN] Y)
 |8=>(.mkSl 9 Y N)
 |9=>(.alloc [.nilm,.nilm,.nilm] Y)
 |10=>(.alloc [i0,i0] Y)
 |11 => .mki
 |12 => .mn
 |13=>(.build [(.str []),sN] [(1,1)])
 |14=>(.load 1 N)
 |15=>(.sls N Y)
 |_ => .bad
def dk5:Nat->K
 |0=>(.app 1 N 16)
 |1=>(.bin .quo)
 |2=>(.store 5 Y)
 |3=>(.alloc [(.str []),i0,sN,sN,i0] Y)
 |4=>(.mkSl 23 Y N)
 |5=>(.calle 706)
 |6 => .mkm
 |7=>(.ext 1)
 |8=>(.mlk 1 sN N)
 |9=>(.iad 3 Y (some 2))
 |10=>(.callr 997)
 |11=>(.callr 982)
 |12=>(.app 4 Y 64)
 |13=>(.bin .lss)
 |14 => .mx
 |15=>(.cvi .u64)
 |_ => .bad
def dk6:Nat->K
 |0=>(.alloc [sN] N)
 |1=>(.build [(.str []),i0,i0,(.str []),sN,bN,i0,sN,sN] [])
 |2=>(.bin .and)
 |3=>(.store 256 Y)
 |4=>(.eqn 1 N)
 |5=>(.eqs Y [1,0])
 |6=>(.iad 1 N (some 256))
 |7=>(.cvi .i32)
 |8=>(.cvi .u8)
 |9=>(.alloc [(.str []),i0,i0,(.str []),sN,bN,i0,sN,sN] Y)
 |10=>(.bin .xor)
 |11=>(.store 9 Y)
 |12=>(.slc 1 N Y N)
 |13=>(.app 1 N 24)
 |14=>(.build [i0,sN] [(0,1),(1,1)])
 |15=>(.mup 1)
 |_ => .bad
def dk7:Nat->K
 |0=>(.ext 0)
 |1=>(.alloc [(.int .u64 0),(.int .u64 0),(.int .u64 0)] Y)
 |2=>(.mlk 1 bN N)
 |3=>(.build [i0,i0,i0,i0] [(0,1),(1,1),(2,1)])
 |4=>(.cpy 2 Y)
 |5=>(.slc 2 N Y N)
 |6=>(.slc 2 Y N N)
 |7=>(.store 3 Y)
 |8=>(.alloc [(.str []),(.str []),sN] Y)
 |9=>(.alloc [.nilf] N)
 |10 => .s2b
 |11=>(.alloc (List.replicate 256 bN) Y)
 |12=>(.beq N)
 |13=>(.fad 8 1 N)
 |14=>(.beq Y)
 |15=>(.load 256 Y)
 |_ => .bad
def dk8:Nat->K
 |0=>(.alloc [(.str []),sN,(.str [])] Y)
 |1=>(.ixa 22 3 Y)
 |2=>(.build [(.str []),i0,i0,(.str []),sN,bN,i0,sN,sN] [(0,1),(8,1)])
 |3 => .cap
 |4=>(.load 6 Y)
 |5=>(.alloc [(.int .u64 0)] N)
 |6=>(.build [(.str []),i0,i0,(.str []),sN,bN,i0,sN,sN] [(0,1),(2,1),(4,1)])
 |7=>(.app 23 Y 344)
 |8=>(.app 2 Y 32)
 |9=>(.app 5 Y 80)
 |10=>(.mkSl 5 Y N)
 |11=>(.build [(.str []),i0,sN,sN,i0] [(0,1),(3,1),(4,1)])
 |12=>(.un .neg)
 |13=>(.alloc [i0,sN] Y)
 |14=>(.iad 23 Y none)
 |15=>(.slc 2 N Y Y)
 |_ => .bad
def dk9:Nat->K
 |0=>(.build [i0,sN] [(0,1)])
 |1=>(.eqs N [0,0,0,0])
 |2=>(.store 6 Y)
 |3=>(.alloc [sN,sN,i0] Y)
 |4=>(.alloc [sN,sN,i0,sN,sN,sN] Y)
 |5=>(.calle 981)
 |6=>(.callr 996)
 |7=>(.callr 994)
 |8=>(.build [sN,sN,bN,i0] [])
 |9=>(.mks 1 N 8 [i0])
 |10=>(.mkf 46)
 |11=>(.alloc [.nilp] N)
 |12 => .box
 |13=>(.build [sN,sN,i0,sN,sN,sN,sN,i0] [(0,6),(6,1)])
 |14=>(.mks 1 N 1 [bN])
 |15=>(.mks 2 Y 16 [i0,i0])
 |_ => .bad
def pF:Nat->K
 |0=>(.mkf 53)
 |1=>(.mkf 61)
 |2=>(.mkf 74)
 |3=>(.bin .leq)
 |4=>(.eqn 4 N)
 |5=>(.mkf 97)
 |6=>(.mkf 110)
 |7=>(.sls Y Y)
 |8=>(.store 66 Y)
 |9=>(.build [(.str []),sN,(.str []),(.str []),sN,(.str []),(.str []),sN,(.str []),(.str []),sN,(.str []),(.str []),sN,(.str []),(.str []),sN,(.str []),(.str []),sN,(.str []),(.str []),sN,(.str []),(.str []),sN,(.str []),(.str []),sN,(.str []),(.str []),sN,(.str []),(.str []),sN,(.str []),(.str []),sN,(.str []),(.str []),sN,(.str []),(.str []),sN,(.str []),(.str []),sN,(.str []),(.str []),sN,(.str []),(.str []),sN,(.str []),(.str []),sN,(.str []),(.str []),sN,(.str []),(.str []),sN,(.str []),(.str []),sN,(.str [])] [(0,3),(3,3),(6,3),(9,3),(12,3),(15,3),(18,3),(21,3),(24,3),(27,3),(30,3),(33,3),(36,3),(39,3),(42,3),(45,3),(48,3),(51,3),(54,3),(57,3),(60,3),(63,3)])
 |10=>(.alloc [(.str []),sN,(.str []),(.str []),sN,(.str []),(.str []),sN,(.str []),(.str []),sN,(.str []),(.str []),sN,(.str []),(.str []),sN,(.str []),(.str []),sN,(.str []),(.str []),sN,(.str []),(.str []),sN,(.str []),(.str []),sN,(.str []),(.str []),sN,(.str []),(.str []),sN,(.str []),(.str []),sN,(.str []),(.str []),sN,(.str []),(.str []),sN,(.str []),(.str []),sN,(.str []),(.str []),sN,(.str []),(.str []),sN,(.str []),(.str []),sN,(.str []),(.str []),sN,(.str []),(.str []),sN,(.str []),(.str []),sN,(.str [])] Y)
 |11=>(.mkf 208)
 |12=>(.alloc [(.str []),i0] Y)
 |13=>(.alloc [(.int .u8 0),(.int .u8 0)] Y)
 |14=>(.iad 2 Y (some 16))
 |15=>(.bin .andNot)
 |_ => .bad
def pE:Nat->K
 |0=>(.apz 1 N 16 [(.str [])])
 |1=>(.bx 3)
 |2=>(.mkf 274)
 |3=>(.mkf 579)
 |4=>(.mkf 592)
 |5=>(.build [sN,i0,sN,bN,(.str []),i0,i0,(.str []),sN,bN,i0,sN,sN,i0,(.str []),i0,i0,(.str []),sN,bN,i0,sN,sN] [(0,1),(1,3),(14,9)])
 |6=>(.build [i0,sN,bN] [(0,1),(1,1)])
 |7=>(.build [(.str []),i0,i0,(.str []),sN,bN,i0,sN,sN] [(0,1),(4,1),(8,1)])
 |8=>(.build [(.str []),i0,i0,(.str []),sN,bN,i0,sN,sN] [(0,1),(7,1),(8,1)])
 |9=>(.mkf 602)
 |10=>(.mkf 594)
 |11=>(.mkf 603)
 |12=>(.mkf 628)
 |13=>(.mkf 708)
 |14=>(.slc 1 Y Y N)
 |15=>(.mkf 713)
 |_ => .bad
def pD:Nat->K
 |0=>(.build [.nilm,.nilm,.nilm] [(0,1),(1,1),(2,1)])
 |1 => .mes
 |2=>(.men 1 sN)
 |3 => .ent
 |4 => .rng
 |5=>(.mkf 718)
 |6=>(.alloc [(.int .u64 0),(.int .u64 0),(.int .u64 0),(.int .u64 0),(.int .u64 0),(.int .u64 0)] Y)
 |7=>(.bx 0)
 |8=>(.ixa 3 1 N)
 |9=>(.build [(.int .u64 0),(.int .u64 0),(.int .u64 0)] [(0,1),(1,1),(2,1)])
 |10=>(.ixa 2 1 N)
 |11=>(.bx 1)
 |12=>(.build [i0,i0,i0,i0] [(0,1),(1,1),(2,1),(3,1)])
 |13=>(.ext 3)
 |14=>(.build [sN,sN,i0] [(0,1),(1,1),(2,1)])
 |15=>(.build [sN,sN,i0,sN,sN,sN] [(0,1),(2,1),(3,1),(4,1),(5,1)])
 |_ => .bad
def pC:Nat->K
 |0=>(.mkSl 24 Y N)
 |1=>(.mkSl 3 Y N)
 |2=>(.build [i0,i0,sN,(.str []),i0,i0,(.str []),sN,bN,i0,sN,sN,sN,i0,(.str []),i0,i0,(.str []),sN,bN,i0,sN,sN,i0] [(0,1),(1,1),(2,1),(3,9)])
 |3=>(.build [(.str []),i0,i0,(.str []),sN,bN,i0,sN,sN] [(0,1),(4,1)])
 |4=>(.build [(.str []),(.str []),sN] [(0,1),(1,2)])
 |5=>(.build [.nilm,i0,i0] [(0,1)])
 |6=>(.callr 995)
 |7=>(.build [i0,sN] [(1,1)])
 |8=>(.slc 1 N Y Y)
 |9=>(.build [sN,sN,bN,i0] [(2,1),(3,1)])
 |10=>(.mkf 1002)
 |11=>(.iad 4 Y none)
 |12=>(.build [i0,i0,i0,i0] [(2,1)])
 |13=>(.build [sN,sN,bN,i0] [(0,1),(1,1),(2,1)])
 |14=>(.bin .rem)
 |15=>(.fad 0 23 Y)
 |_ => .bad
def aGR:Nat->K
 |0=>(.build [sN,i0] [])
 |_ => .bad
def dkx:Nat->Nat->K
 |0,n=>dk0 n
 |1,n=>dk1 n
 |2,n=>dk2 n
 |3,n=>dk3 n
 |4,n=>dk4 n
 |5,n=>dk5 n
 |6,n=>dk6 n
 |7,n=>dk7 n
 |8,n=>dk8 n
 |9,n=>dk9 n
 |10,n=>pF n
 |11,n=>pE n
 |12,n=>pD n
 |13,n=>pC n
 |14,n=>aGR n
 |_,_ => .bad
def dk(n:Nat):K:=dkx (n / 16) (n % 16)
def dc0:Nat->AV
 |0=>i0
 |1=>bN
 |2=>i1
 |3=>bY
 |4=>sN
 |5=>(.int .i64 2)
 |6=>(.int .i64 3)
 |7=>(.str [98,111,111,108])
 |8=>(.str [105,110,116])
 |9=>(.int .i64 (-1))
 |10=>(.str [])
 |11=>(.int .i64 4)
 |12=>(.int .i64 8)
 |13=>(.int .u64 0)
 |14=>(.str [114,101,97,100])
 |15=>(.str [65])
 |_=>Z
def dc1:Nat->AV
 |0=>(.int .i64 6)
 |1=>(.int .i32 65533)
 |2=>(.int .i64 12)
 |3=>(.str [114,101,100,117,99,101])
 |4=>(.int .i64 (-2))
 |5=>(.int .i64 22)
 |6=>(.int .i64 20)
 |7=>(.str [99,111,100,101])
 |8=>(.str [105,102])
 |9=>(.str [99,111,110,115,116])
 |10=>(.int .u64 32)
 |11=>(.int .i64 35)
 |12=>(.int .u8 128)
 |13=>(.int .i64 5)
 |14=>(.int .u8 63)
 |15=>(.int .i64 4096)
 |_=>Z
def dc2:Nat->AV
 |0=>(.int .i64 1000000)
 |1=>(.int .i32 0)
 |2=>(.int .i64 60)
 |3=>(.int .u8 48)
 |4=>(.int .i64 50)
 |5=>(.str [110])
 |6=>(.int .i64 10)
 |7=>(.int .i64 1099511627776)
 |8=>(.int .u8 57)
 |9=>(.int .i64 30)
 |10=>(.str [108,105,110,101,97,114])
 |11=>(.str [116,114,117,116,104])
 |12=>(.int .u64 4294967295)
 |13=>(.str [115,101,108,101,99,116])
 |14=>(.str [110,101])
 |15=>(.str [101,113])
 |_=>Z
def dc3:Nat->AV
 |0=>(.str [103,101])
 |1=>(.str [103,116])
 |2=>(.str [108,101])
 |3=>(.str [108,116])
 |4=>(.str [110,101,103])
 |5=>(.int .i32 128)
 |6=>(.int .u64 1)
 |7=>(.int .u64 6)
 |8=>(.int .i64 1000)
 |9=>(.int .i64 20000)
 |10=>(.str [99,97,110,110,111,116,32,98,101,32,110,101,103,97,116,105,118,101])
 |11=>(.int .i64 1000000000)
 |12=>(.int .i64 (-1000000000))
 |13=>(.int .i64 7)
 |14=>(.int .i64 400)
 |15=>(.int .u8 122)
 |_=>Z
def dc4:Nat->AV
 |0=>(.int .u8 97)
 |1=>(.str [48,49,50,51,52,53,54,55,56,57])
 |2=>(.int .u8 105)
 |3=>(.int .u32 0)
 |4=>(.int .i64 (-1000000))
 |5=>(.int .i64 4000)
 |6=>(.int .i64 2147483647)
 |7=>(.int .i64 (-2147483648))
 |8=>(.str [116,111,105,110,116])
 |9=>(.str [110,111,116])
 |10=>(.str [120,111,114])
 |11=>(.str [111,114])
 |12=>(.str [97,110,100])
 |13=>(.str [115,105,103,110])
 |14=>(.str [97,98,115])
 |15=>(.str [109,97,120])
 |_=>Z
def dc5:Nat->AV
 |0=>(.str [109,105,110])
 |1=>(.str [109,111,100])
 |2=>(.str [100,105,118])
 |3=>(.str [109,117,108])
 |4=>(.str [115,117,98])
 |5=>(.str [97,100,100])
 |6=>(.str [0,1,2,2,3,3,3,3,4,4,4,4,4,4,4,4,5,5,5,5,5,5,5,5,5,5,5,5,5,5,5,5,6,6,6,6,6,6,6,6,6,6,6,6,6,6,6,6,6,6,6,6,6,6,6,6,6,6,6,6,6,6,6,6,7,7,7,7,7,7,7,7,7,7,7,7,7,7,7,7,7,7,7,7,7,7,7,7,7,7,7,7,7,7,7,7,7,7,7,7,7,7,7,7,7,7,7,7,7,7,7,7,7,7,7,7,7,7,7,7,7,7,7,7,7,7,7,7,8,8,8,8,8,8,8,8,8,8,8,8,8,8,8,8,8,8,8,8,8,8,8,8,8,8,8,8,8,8,8,8,8,8,8,8,8,8,8,8,8,8,8,8,8,8,8,8,8,8,8,8,8,8,8,8,8,8,8,8,8,8,8,8,8,8,8,8,8,8,8,8,8,8,8,8,8,8,8,8,8,8,8,8,8,8,8,8,8,8,8,8,8,8,8,8,8,8,8,8,8,8,8,8,8,8,8,8,8,8,8,8,8,8,8,8,8,8,8,8,8,8,8,8,8,8,8,8])
 |7=>(.int .u64 8)
 |8=>(.int .i64 16)
 |9=>(.int .u64 16)
 |10=>(.int .u64 12)
 |11=>(.int .u8 7)
 |12=>(.int .u8 191)
 |13=>(.int .u64 31)
 |14=>(.int .i64 100)
 |15=>(.int .i64 (-100))
 |_=>Z
def dc6:Nat->AV
 |0 => .nilf
 |1=>(.int .i64 240000)
 |2=>(.int .i64 (-1099511627776))
 |3=>(.int .i64 10000)
 |4=>(.str [116,104,101,32,114,101,115,117,108,116,32,111,102,32,40,108,101,110,40,120,41,32,42,32,99,111,117,110,116,41,32,111,118,101,114,102,108,111,119,115])
 |5=>(.int .u64 9223372036854775807)
 |6=>(.int .i64 14)
 |7=>(.str [95])
 |8=>(.int .u8 106)
 |9=>(.int .u8 95)
 |10=>(.int .u8 90)
 |11=>(.int .u8 65)
 |12=>(.str [105])
 |13=>(.int .u32 256)
 |14=>(.int .u32 65536)
 |15=>(.int .u64 256)
 |_=>Z
def dc7:Nat->AV
 |0=>(.int .u64 65536)
 |1=>(.int .i64 32)
 |2=>(.int .u64 4294967296)
 |3=>(.str [108,101,110,32,111,117,116,32,111,102,32,114,97,110,103,101])
 |4=>(.int .u64 17)
 |5=>(.int .u64 7)
 |6=>(.int .u64 13)
 |7=>(.int .u64 18)
 |8=>(.int .u8 15)
 |9=>(.int .u8 31)
 |10=>(.int .u64 4)
 |11=>(.int .u8 240)
 |12=>(.int .u8 192)
 |13=>(.int .i32 1114111)
 |14=>(.int .i32 57343)
 |15=>(.int .i32 55296)
 |_=>Z
def dc8:Nat->AV
 |0=>(.str [42])
 |1=>(.int .i64 4611686018427387904)
 |2=>(.int .i64 (-4611686018427387904))
 |3=>(.int .u64 4611686018427387904)
 |4=>(.int .i64 (-20))
 |5=>(.str [105,48])
 |6=>(.int .i64 21)
 |7=>(.int .i64 9)
 |8 => .nilp
 |9=>(.int .i64 200000)
 |10=>(.str [111,117,116,101,114])
 |_=>Z
def dcx:Nat->Nat->AV
 |0,n=>dc0 n
 |1,n=>dc1 n
 |2,n=>dc2 n
 |3,n=>dc3 n
 |4,n=>dc4 n
 |5,n=>dc5 n
 |6,n=>dc6 n
 |7,n=>dc7 n
 |8,n=>dc8 n
 |_,_=>Z
def dc(n:Nat):AV:=dcx (n / 16) (n % 16)
def a2:Nat->Nat->Nat->Nat->Nat×Nat
 |0,d,e,r=>(d+8*e,r)
 |_+1,d,e,r=>(d+8*(e+8*(r % 4096)),r / 4096)
def a1:Nat->Nat->Nat->Nat×Nat
 |0,d,r=>(d,r)
 |_+1,d,r=>a2 (r % 32 / 24) d (r % 32) (r / 32)
def dN(n:Nat):Nat×Nat:=a1 (n % 32 / 24) (n % 32) (n / 32)
def y2(f:Nat->X):Nat×Nat->X×Nat
 |(v,p)=>(f v,p)
def y0(q:Nat):Nat×Nat->X×Nat
 |(0,m)=>(.c (dc (m % 139)),m / 139)
 |(1,m)=>y2 .f (dN m)
 |(2,m)=>y2 .g (dN m)
 |(3,m)=>y2 .t (dN m)
 |(y+4,m)=>(.t (q-1-y),m)
def dX(q n:Nat):X×Nat:=y0 q (dN n)
def dB:Nat->Bool
 |0=>false
 |_+1=>true
def dO:Bool->Nat->Nat×Nat
 |true,n=>dN n
 |false,n=>(0,n)
def v1(w n:Nat):Nat×Nat:=(n % 16 ^ w,n / 16 ^ w)
def dV:Bool->Nat->Nat×Nat
 |true,n=>v1 (n % 64) (n / 64)
 |false,n=>(0,n)
def k2:Nat×Nat->K×Nat
 |(f,m)=>(.call f (dB (m % 4 / 2)) (dB (m % 2)),m / 4)
def k1:Nat->Nat->K×Nat
 |0,m=>k2 (dN m)
 |i+1,m=>(dk i,m)
abbrev Hd:=K×Nat×Nat×Nat×Bool×Bool
def h3(k:K)(m:Nat):Nat×Nat->Hd×Nat
 |(j,p)=>((k,j,m % 3,m / 3 % 3,dB (m / 9 % 2),dB (m / 18 % 2)),p)
def h2:K×Nat->Hd×Nat
 |(k,m)=>h3 k m (dN (m / 36))
def h1:Nat->Nat->Nat->Hd×Nat
 |0,i,m=>(dh i,m)
 |_+1,_,m=>h2 (k1 (m % 226) (m / 226))
def d2:Nat×Nat->Option Nat×Nat×Nat
 |(d,p)=>(some d,d,p)
def dD:Nat->Nat->Nat->Option Nat×Nat×Nat
 |0,q,n=>(none,q,n)
 |1,q,n=>(some (q-1),q-1,n)
 |_+2,_,n=>d2 (dN n)
def x1(l:List X)(q:Nat):X×Nat->List X×Nat×Nat
 |(x,n)=>(x::l,q,n)
def x0:List X×Nat×Nat->List X×Nat×Nat
 |(l,q,n)=>x1 l q (dX q n)
def dXs:Nat->List X×Nat×Nat->List X×Nat×Nat
 |0,s=>s
 |k+1,s=>dXs k (x0 s)
def g2(b:Bool):Nat×Nat->Option (Nat×Bool)×Nat
 |(t,p)=>(some (t,b),p)
def dG:Nat->Nat->Option (Nat×Bool)×Nat
 |0,n=>(none,n)
 |1,n=>g2 false (dN n)
 |_+2,n=>g2 true (dN n)
def r5(c:List R)(k:K)(d:Option Nat)(q:Nat)(l:List X)(t:Option (Nat×Bool))(e:Nat):Nat×Nat->List R×Nat×Nat
 |(z,n)=>(⟨d,k,l,t,e,z⟩::c,q,n)
def r4(c:List R)(k:K)(d:Option Nat)(q:Nat)(l:List X)(t:Option (Nat×Bool))(s:Bool):Nat×Nat->List R×Nat×Nat
 |(e,n)=>r5 c k d q l t e (dO s n)
def r3(c:List R)(k:K)(d:Option Nat)(q:Nat)(l:List X)(b s:Bool):Option (Nat×Bool)×Nat->List R×Nat×Nat
 |(t,n)=>r4 c k d q l t s (dV b n)
def r2(c:List R)(k:K)(d:Option Nat)(g:Nat)(b s:Bool):List X×Nat×Nat->List R×Nat×Nat
 |(l,q,n)=>r3 c k d q l b s (dG g n)
def r1(c:List R)(k:K)(j g:Nat)(b s:Bool):Option Nat×Nat×Nat->List R×Nat×Nat
 |(d,q,n)=>r2 c k d g b s (dXs j ([],q,n))
def r0(c:List R)(q:Nat):Hd×Nat->List R×Nat×Nat
 |((k,j,m,g,b,s),n)=>r1 c k j g b s (dD m q n)
def dR:List R×Nat×Nat->List R×Nat×Nat
 |(c,q,n)=>r0 c q (h1 (n % 128 / 127) (n % 128) (n / 128))
def dRs:Nat->List R×Nat×Nat->List R×Nat×Nat
 |0,s=>s
 |k+1,s=>dRs k (dR s)
def dI:List (C×List Bool)->Nat->C
 |(a,m)::_,0 => .loop a m
 |_::r,k+1=>dI r k
 |[],_ => .bad
def s1(b:Bool)(l:List C):List R×Nat×Nat->List C×Nat×Nat
 |(r,q,n)=>(.reg r b::l,q,n)
def s0(b:Bool)(l:List C)(q:Nat):Nat×Nat->List C×Nat×Nat
 |(k,n)=>s1 b l (dRs k ([],q,n))
def s4(a b:C)(l:List C)(q:Nat):X×Nat->List C×Nat×Nat
 |(x,n)=>(.cond x a b::l,q,n)
def s5(f:Nat->C)(l:List C)(q:Nat):Nat×Nat->List C×Nat×Nat
 |(i,n)=>(f i::l,q,n)
def n1(l:List Nat):Nat×Nat->List Nat×Nat
 |(v,n)=>(v::l,n)
def n0:List Nat×Nat->List Nat×Nat
 |(l,n)=>n1 l (dN n)
def dNs:Nat->List Nat×Nat->List Nat×Nat
 |0,s=>s
 |k+1,s=>dNs k (n0 s)
def f3(a b:C)(l:List C)(q:Nat)(x:X)(i:Nat):List Nat×Nat->List C×Nat×Nat
 |(p,n)=>(.rf x i p a b::l,q,n)
def f2(a b:C)(l:List C)(q:Nat)(x:X)(i:Nat):Nat×Nat->List C×Nat×Nat
 |(k,n)=>f3 a b l q x i (dNs k ([],n))
def f1(a b:C)(l:List C)(q:Nat)(x:X):Nat×Nat->List C×Nat×Nat
 |(i,n)=>f2 a b l q x i (dN n)
def f0(a b:C)(l:List C)(q:Nat):X×Nat->List C×Nat×Nat
 |(x,n)=>f1 a b l q x (dN n)
def dW(a b c d:Nat):List (C×List Bool)->Nat->C
 |(e,m)::_,0 => .mr a b c d e m
 |_::r,k+1=>dW a b c d r k
 |[],_ => .bad
def w5(z:List (C×List Bool))(a b c d:Nat)(l:List C)(q:Nat):Nat×Nat->List C×Nat×Nat
 |(i,n)=>(dW a b c d z i::l,q,n)
def w4(z:List (C×List Bool))(a b c:Nat)(l:List C)(q:Nat):Nat×Nat->List C×Nat×Nat
 |(d,n)=>w5 z a b c d l q (dN n)
def w3(z:List (C×List Bool))(a b:Nat)(l:List C)(q:Nat):Nat×Nat->List C×Nat×Nat
 |(c,n)=>w4 z a b c l q (dN n)
def w2(z:List (C×List Bool))(a:Nat)(l:List C)(q:Nat):Nat×Nat->List C×Nat×Nat
 |(b,n)=>w3 z a b l q (dN n)
def w1(z:List (C×List Bool))(l:List C)(q:Nat):Nat×Nat->List C×Nat×Nat
 |(a,n)=>w2 z a l q (dN n)
def qZ(p r:C)(i a b c d:Nat)(ps:List Nat):List (C×List Bool)->Nat->C
 |(e,m)::(_,k)::_,0 => .mq p i a b c d e m r k ps
 |_::s,j+1=>qZ p r i a b c d ps s j
 |_,_ => .bad
def q8(z:List (C×List Bool))(p r:C)(i a b c d j:Nat)(l:List C)(q:Nat):List Nat×Nat->List C×Nat×Nat
 |(ps,n)=>(qZ p r i a b c d ps z j::l,q,n)
def q7(z:List (C×List Bool))(p r:C)(i a b c d j:Nat)(l:List C)(q:Nat):Nat×Nat->List C×Nat×Nat
 |(k,n)=>q8 z p r i a b c d j l q (dNs k ([],n))
def q6(z:List (C×List Bool))(p r:C)(i a b c d:Nat)(l:List C)(q:Nat):Nat×Nat->List C×Nat×Nat
 |(j,n)=>q7 z p r i a b c d j l q (dN n)
def q5(z:List (C×List Bool))(p r:C)(i a b c:Nat)(l:List C)(q:Nat):Nat×Nat->List C×Nat×Nat
 |(d,n)=>q6 z p r i a b c d l q (dN n)
def q4(z:List (C×List Bool))(p r:C)(i a b:Nat)(l:List C)(q:Nat):Nat×Nat->List C×Nat×Nat
 |(c,n)=>q5 z p r i a b c l q (dN n)
def q3(z:List (C×List Bool))(p r:C)(i a:Nat)(l:List C)(q:Nat):Nat×Nat->List C×Nat×Nat
 |(b,n)=>q4 z p r i a b l q (dN n)
def q2(z:List (C×List Bool))(p r:C)(i:Nat)(l:List C)(q:Nat):Nat×Nat->List C×Nat×Nat
 |(a,n)=>q3 z p r i a l q (dN n)
def q1(z:List (C×List Bool))(p r:C)(l:List C)(q:Nat):Nat×Nat->List C×Nat×Nat
 |(i,n)=>q2 z p r i l q (dN n)
def c0(z:List (C×List Bool)):Nat->List C->Nat->Nat->List C×Nat×Nat
 |0,l,q,n=>(.skip::l,q,n)
 |1,l,q,n=>s0 false l q (dN n)
 |2,l,q,n=>s0 true l q (dN n)
 |3,a::b::l,q,n=>(.seq a b::l,q,n)
 |4,a::b::l,q,n=>s4 a b l q (dX q n)
 |5,a::l,q,n=>s5 (λi => .block i a) l q (dN n)
 |6,l,q,n=>s5 (dI z) l q (dN n)
 |7,l,q,n=>s5 .exit l q (dN n)
 |8,l,q,n=>(.ret::l,q,n)
 |9,a::b::l,q,n=>f0 a b l q (dX q n)
 |10,l,q,n=>w1 z l q (dN n)
 |12,a::b::l,q,n=>q1 z a b l q (dN n)
 |_,l,q,n=>(.bad::l,q,n)
def c1(z:List (C×List Bool)):List C×Nat×Nat->List C×Nat×Nat
 |(l,q,n)=>c0 z (n % 13) l q (n / 13)
def dCs(z:List (C×List Bool)):Nat->List C×Nat×Nat->List C×Nat×Nat
 |0,s=>s
 |k+1,s=>dCs z k (c1 z s)
def hC:List C×Nat×Nat->C
 |(a::_,_,_)=>a
 |([],_,_) => .bad
def b1(z:List (C×List Bool))(q:Nat):Nat×Nat->C
 |(k,n)=>hC (dCs z k ([],q,n))
def b0(z:List (C×List Bool)):Nat×Nat->C
 |(q,n)=>b1 z q (dN n)
def dL(z:List (C×List Bool))(n:Nat):C:=b0 z (dN n)
abbrev Re:=List (Sum Nat (Nat×Nat×Bool))
def e2(l:Re)(t b:Nat):Nat×Nat->Re×Nat
 |(s,n)=>(.inr (t,s,dB b)::l,n)
def e1(l:Re)(t n:Nat):Nat->Re×Nat
 |0=>(.inl t::l,n)
 |b+1=>e2 l t b (dN n)
def e0(l:Re)(b:Nat):Nat×Nat->Re×Nat
 |(t,n)=>e1 l t n b
def eR:Re×Nat->Re×Nat
 |(l,n)=>e0 l (n % 3) (dN (n / 3))
def dRe:Nat->Re×Nat->Re×Nat
 |0,s=>s
 |k+1,s=>dRe k (eR s)
def t4(z:List (C×List Bool))(a:Nat)(r:Re)(q:Nat):Nat×Nat->CF
 |(k,n)=>⟨a,q,r,hC (dCs z k ([],q,n))⟩
def t3(z:List (C×List Bool))(a:Nat)(r:Re):Nat×Nat->CF
 |(q,n)=>t4 z a r q (dN n)
def t2(z:List (C×List Bool))(a:Nat):Re×Nat->CF
 |(r,n)=>t3 z a r (dN n)
def t1(z:List (C×List Bool))(a:Nat):Nat×Nat->CF
 |(k,n)=>t2 z a (dRe k ([],n))
def t0(z:List (C×List Bool)):Nat×Nat->CF
 |(a,n)=>t1 z a (dN n)
def dF(z:List (C×List Bool))(n:Nat):CF:=t0 z (dN n)
def dM:List Nat->Bool->List Bool
 |[],_=>[]
 |k::r,b=>List.replicate k b++dM r (!b)
def dP:Nat->List AV->List AV
 |0,l=>l
 |k+1,l => .top::dP k l
def dT(f:List AV->List AV):Nat->List AV->List AV
 |0,l=>f l
 |k+1,a::l=>a::dT f k l
 |_+1,[]=>[]
def dE:List Nat->List AV->List AV
 |k::j::r,l=>dP k (dT (dE r) j l)
 |[k],_=>dP k []
 |[],_=>[]
def xA{α : Type}(v y : α)(_:y=v:=by simp only[dh0.eq_1,dh0.eq_2,dh0.eq_3,dh0.eq_4,dh0.eq_5,dh0.eq_6,dh0.eq_7,dh0.eq_8,dh0.eq_9,dh0.eq_10,dh0.eq_11,dh0.eq_12,dh0.eq_13,dh0.eq_14,dh0.eq_15,dh0.eq_16,dh0.eq_17,dh1.eq_1,dh1.eq_2,dh1.eq_3,dh1.eq_4,dh1.eq_5,dh1.eq_6,dh1.eq_7,dh1.eq_8,dh1.eq_9,dh1.eq_10,dh1.eq_11,dh1.eq_12,dh1.eq_13,dh1.eq_14,dh1.eq_15,dh1.eq_16,dh1.eq_17,dh2.eq_1,dh2.eq_2,dh2.eq_3,dh2.eq_4,dh2.eq_5,dh2.eq_6,dh2.eq_7,dh2.eq_8,dh2.eq_9,dh2.eq_10,dh2.eq_11,dh2.eq_12,dh2.eq_13,dh2.eq_14,dh2.eq_15,dh2.eq_16,dh2.eq_17,dh3.eq_1,dh3.eq_2,dh3.eq_3,dh3.eq_4,dh3.eq_5,dh3.eq_6,dh3.eq_7,dh3.eq_8,dh3.eq_9,dh3.eq_10,dh3.eq_11,dh3.eq_12,dh3.eq_13,dh3.eq_14,dh3.eq_15,dh3.eq_16,dh3.eq_17,dh4.eq_1,dh4.eq_2,dh4.eq_3,dh4.eq_4,dh4.eq_5,dh4.eq_6,dh4.eq_7,dh4.eq_8,dh4.eq_9,dh4.eq_10,dh4.eq_11,dh4.eq_12,dh4.eq_13,dh4.eq_14,dh4.eq_15,dh4.eq_16,dh4.eq_17,dh5.eq_1,dh5.eq_2,dh5.eq_3,dh5.eq_4,dh5.eq_5,dh5.eq_6,dh5.eq_7,dh5.eq_8,dh5.eq_9,dh5.eq_10,dh5.eq_11,dh5.eq_12,dh5.eq_13,dh5.eq_14,dh5.eq_15,dh5.eq_16,dh5.eq_17,dh6.eq_1,dh6.eq_2,dh6.eq_3,dh6.eq_4,dh6.eq_5,dh6.eq_6,dh6.eq_7,dh6.eq_8,dh6.eq_9,dh6.eq_10,dh6.eq_11,dh6.eq_12,dh6.eq_13,dh6.eq_14,dh6.eq_15,dh6.eq_16,dh6.eq_17,dh7.eq_1,dh7.eq_2,dh7.eq_3,dh7.eq_4,dh7.eq_5,dh7.eq_6,dh7.eq_7,dh7.eq_8,dh7.eq_9,dh7.eq_10,dh7.eq_11,dh7.eq_12,dh7.eq_13,dh7.eq_14,dh7.eq_15,dh7.eq_16,dhx.eq_1,dhx.eq_2,dhx.eq_3,dhx.eq_4,dhx.eq_5,dhx.eq_6,dhx.eq_7,dhx.eq_8,dhx.eq_9,dh.eq_1,dk0.eq_1,dk0.eq_2,dk0.eq_3,dk0.eq_4,dk0.eq_5,dk0.eq_6,dk0.eq_7,dk0.eq_8,dk0.eq_9,dk0.eq_10,dk0.eq_11,dk0.eq_12,dk0.eq_13,dk0.eq_14,dk0.eq_15,dk0.eq_16,dk0.eq_17,dk1.eq_1,dk1.eq_2,dk1.eq_3,dk1.eq_4,dk1.eq_5,dk1.eq_6,dk1.eq_7,dk1.eq_8,dk1.eq_9,dk1.eq_10,dk1.eq_11,dk1.eq_12,dk1.eq_13,dk1.eq_14,dk1.eq_15,dk1.eq_16,dk1.eq_17,dk2.eq_1,dk2.eq_2,dk2.eq_3,dk2.eq_4,dk2.eq_5,dk2.eq_6,dk2.eq_7,dk2.eq_8,dk2.eq_9,dk2.eq_10,dk2.eq_11,dk2.eq_12,dk2.eq_13,dk2.eq_14,dk2.eq_15,dk2.eq_16,dk2.eq_17,dk3.eq_1,dk3.eq_2,dk3.eq_3,dk3.eq_4,dk3.eq_5,dk3.eq_6,dk3.eq_7,dk3.eq_8,dk3.eq_9,dk3.eq_10,dk3.eq_11,dk3.eq_12,dk3.eq_13,dk3.eq_14,dk3.eq_15,dk3.eq_16,dk3.eq_17,dk4.eq_1,dk4.eq_2,dk4.eq_3,dk4.eq_4,dk4.eq_5,dk4.eq_6,dk4.eq_7,dk4.eq_8,dk4.eq_9,dk4.eq_10,dk4.eq_11,dk4.eq_12,dk4.eq_13,dk4.eq_14,dk4.eq_15,dk4.eq_16,dk4.eq_17,dk5.eq_1,dk5.eq_2,dk5.eq_3,dk5.eq_4,dk5.eq_5,dk5.eq_6,dk5.eq_7,dk5.eq_8,dk5.eq_9,dk5.eq_10,dk5.eq_11,dk5.eq_12,dk5.eq_13,dk5.eq_14,dk5.eq_15,dk5.eq_16,dk5.eq_17,dk6.eq_1,dk6.eq_2,dk6.eq_3,dk6.eq_4,dk6.eq_5,dk6.eq_6,dk6.eq_7,dk6.eq_8,dk6.eq_9,dk6.eq_10,dk6.eq_11,dk6.eq_12,dk6.eq_13,dk6.eq_14,dk6.eq_15,dk6.eq_16,dk6.eq_17,dk7.eq_1,dk7.eq_2,dk7.eq_3,dk7.eq_4,dk7.eq_5,dk7.eq_6,dk7.eq_7,dk7.eq_8,dk7.eq_9,dk7.eq_10,dk7.eq_11,dk7.eq_12,dk7.eq_13,dk7.eq_14,dk7.eq_15,dk7.eq_16,dk7.eq_17,dk8.eq_1,dk8.eq_2,dk8.eq_3,dk8.eq_4,dk8.eq_5,dk8.eq_6,dk8.eq_7,dk8.eq_8,dk8.eq_9,dk8.eq_10,dk8.eq_11,dk8.eq_12,dk8.eq_13,dk8.eq_14,dk8.eq_15,dk8.eq_16,dk8.eq_17,dk9.eq_1,dk9.eq_2,dk9.eq_3,dk9.eq_4,dk9.eq_5,dk9.eq_6,dk9.eq_7,dk9.eq_8,dk9.eq_9,dk9.eq_10,dk9.eq_11,dk9.eq_12,dk9.eq_13,dk9.eq_14,dk9.eq_15,dk9.eq_16,dk9.eq_17,pF.eq_1,pF.eq_2,pF.eq_3,pF.eq_4,pF.eq_5,pF.eq_6,pF.eq_7,pF.eq_8,pF.eq_9,pF.eq_10,pF.eq_11,pF.eq_12,pF.eq_13,pF.eq_14,pF.eq_15,pF.eq_16,pF.eq_17,pE.eq_1,pE.eq_2,pE.eq_3,pE.eq_4,pE.eq_5,pE.eq_6,pE.eq_7,pE.eq_8,pE.eq_9,pE.eq_10,pE.eq_11,pE.eq_12,pE.eq_13,pE.eq_14,pE.eq_15,pE.eq_16,pE.eq_17,pD.eq_1,pD.eq_2,pD.eq_3,pD.eq_4,pD.eq_5,pD.eq_6,pD.eq_7,pD.eq_8,pD.eq_9,pD.eq_10,pD.eq_11,pD.eq_12,pD.eq_13,pD.eq_14,pD.eq_15,pD.eq_16,pD.eq_17,pC.eq_1,pC.eq_2,pC.eq_3,pC.eq_4,pC.eq_5,pC.eq_6,pC.eq_7,pC.eq_8,pC.eq_9,pC.eq_10,pC.eq_11,pC.eq_12,pC.eq_13,pC.eq_14,pC.eq_15,pC.eq_16,pC.eq_17,aGR.eq_1,aGR.eq_2,dkx.eq_1,dkx.eq_2,dkx.eq_3,dkx.eq_4,dkx.eq_5,dkx.eq_6,dkx.eq_7,dkx.eq_8,dkx.eq_9,dkx.eq_10,dkx.eq_11,dkx.eq_12,dkx.eq_13,dkx.eq_14,dkx.eq_15,dkx.eq_16,dk.eq_1,dc0.eq_1,dc0.eq_2,dc0.eq_3,dc0.eq_4,dc0.eq_5,dc0.eq_6,dc0.eq_7,dc0.eq_8,dc0.eq_9,dc0.eq_10,dc0.eq_11,dc0.eq_12,dc0.eq_13,dc0.eq_14,dc0.eq_15,dc0.eq_16,dc0.eq_17,dc1.eq_1,dc1.eq_2,dc1.eq_3,dc1.eq_4,dc1.eq_5,dc1.eq_6,dc1.eq_7,dc1.eq_8,dc1.eq_9,dc1.eq_10,dc1.eq_11,dc1.eq_12,dc1.eq_13,dc1.eq_14,dc1.eq_15,dc1.eq_16,dc1.eq_17,dc2.eq_1,dc2.eq_2,dc2.eq_3,dc2.eq_4,dc2.eq_5,dc2.eq_6,dc2.eq_7,dc2.eq_8,dc2.eq_9,dc2.eq_10,dc2.eq_11,dc2.eq_12,dc2.eq_13,dc2.eq_14,dc2.eq_15,dc2.eq_16,dc2.eq_17,dc3.eq_1,dc3.eq_2,dc3.eq_3,dc3.eq_4,dc3.eq_5,dc3.eq_6,dc3.eq_7,dc3.eq_8,dc3.eq_9,dc3.eq_10,dc3.eq_11,dc3.eq_12,dc3.eq_13,dc3.eq_14,dc3.eq_15,dc3.eq_16,dc3.eq_17,dc4.eq_1,dc4.eq_2,dc4.eq_3,dc4.eq_4,dc4.eq_5,dc4.eq_6,dc4.eq_7,dc4.eq_8,dc4.eq_9,dc4.eq_10,dc4.eq_11,dc4.eq_12,dc4.eq_13,dc4.eq_14,dc4.eq_15,dc4.eq_16,dc4.eq_17,dc5.eq_1,dc5.eq_2,dc5.eq_3,dc5.eq_4,dc5.eq_5,dc5.eq_6,dc5.eq_7,dc5.eq_8,dc5.eq_9,dc5.eq_10,dc5.eq_11,dc5.eq_12,dc5.eq_13,dc5.eq_14,dc5.eq_15,dc5.eq_16,dc5.eq_17,dc6.eq_1,dc6.eq_2,dc6.eq_3,dc6.eq_4,dc6.eq_5,dc6.eq_6,dc6.eq_7,dc6.eq_8,dc6.eq_9,dc6.eq_10,dc6.eq_11,dc6.eq_12,dc6.eq_13,dc6.eq_14,dc6.eq_15,dc6.eq_16,dc6.eq_17,dc7.eq_1,dc7.eq_2,dc7.eq_3,dc7.eq_4,dc7.eq_5,dc7.eq_6,dc7.eq_7,dc7.eq_8,dc7.eq_9,dc7.eq_10,dc7.eq_11,dc7.eq_12,dc7.eq_13,dc7.eq_14,dc7.eq_15,dc7.eq_16,dc7.eq_17,dc8.eq_1,dc8.eq_2,dc8.eq_3,dc8.eq_4,dc8.eq_5,dc8.eq_6,dc8.eq_7,dc8.eq_8,dc8.eq_9,dc8.eq_10,dc8.eq_11,dc8.eq_12,dcx.eq_1,dcx.eq_2,dcx.eq_3,dcx.eq_4,dcx.eq_5,dcx.eq_6,dcx.eq_7,dcx.eq_8,dcx.eq_9,dcx.eq_10,dc.eq_1,a2.eq_1,a2.eq_2,a1.eq_1,a1.eq_2,dN.eq_1,y2.eq_1,y0.eq_1,y0.eq_2,y0.eq_3,y0.eq_4,y0.eq_5,dX.eq_1,dB.eq_1,dB.eq_2,dO.eq_1,dO.eq_2,v1.eq_1,dV.eq_1,dV.eq_2,k2.eq_1,k1.eq_1,k1.eq_2,h3.eq_1,h2.eq_1,h1.eq_1,h1.eq_2,d2.eq_1,dD.eq_1,dD.eq_2,dD.eq_3,x1.eq_1,x0.eq_1,dXs.eq_1,dXs.eq_2,g2.eq_1,dG.eq_1,dG.eq_2,dG.eq_3,r5.eq_1,r4.eq_1,r3.eq_1,r2.eq_1,r1.eq_1,r0.eq_1,dR.eq_1,dRs.eq_1,dRs.eq_2,dI.eq_1,dI.eq_2,dI.eq_3,s1.eq_1,s0.eq_1,s4.eq_1,s5.eq_1,n1.eq_1,n0.eq_1,dNs.eq_1,dNs.eq_2,f3.eq_1,f2.eq_1,f1.eq_1,f0.eq_1,dW.eq_1,dW.eq_2,dW.eq_3,w5.eq_1,w4.eq_1,w3.eq_1,w2.eq_1,w1.eq_1,qZ.eq_1,qZ.eq_2,qZ.eq_3,q8.eq_1,q7.eq_1,q6.eq_1,q5.eq_1,q4.eq_1,q3.eq_1,q2.eq_1,q1.eq_1,c0.eq_1,c0.eq_2,c0.eq_3,c0.eq_4,c0.eq_5,c0.eq_6,c0.eq_7,c0.eq_8,c0.eq_9,c0.eq_10,c0.eq_11,c0.eq_12,c0.eq_13,c1.eq_1,dCs.eq_1,dCs.eq_2,hC.eq_1,hC.eq_2,b1.eq_1,b0.eq_1,dL.eq_1,e2.eq_1,e1.eq_1,e1.eq_2,e0.eq_1,eR.eq_1,dRe.eq_1,dRe.eq_2,t4.eq_1,t3.eq_1,t2.eq_1,t1.eq_1,t0.eq_1,dF.eq_1,Nat.reduceMod,Nat.reduceDiv,Nat.reduceMul,Nat.reduceAdd,Nat.reduceSub,Nat.reducePow];rfl) : α:=y
def xE(k:List Nat)(l:List AV)(y:List AV)(_:y=dE k l:=by simp only[dE.eq_1,dE.eq_2,dE.eq_3,dP.eq_1,dP.eq_2,dT.eq_1,dT.eq_2];rfl):List AV:=y
def xM(k:List Nat)(y:List Bool)(_:y=dM k false:=by simp only[dM.eq_1,dM.eq_2,List.replicate,List.cons_append,List.nil_append,Bool.not_true,Bool.not_false];rfl):List Bool:=y
@[go_sem] theorem aSk(k:List Nat)(y:List Bool)(h:y=dM k false):xM k y h=y:=rfl
@[go_sem] theorem aSm{α : Type}(v y : α)(h:y=v):xA v y h=y:=rfl
@[go_sem] theorem aSl(k:List Nat)(l:List AV)(y:List AV)(h:y=dE k l):xE k l y h=y:=rfl
end Go.Tev
end
