import GoSem.Step
import Derived.Below
import Derived.Orders
import Derived.Laws.IdiomCopy
import Derived.WalkKit
import Derived.Laws.StructEq
import Derived.Laws.Cover1
import Derived.Laws.Strings
import Derived.Laws.Concat
import Derived.Laws.Build
set_option linter.all false
section
namespace Go.Tev
inductive AV where
 | top
 | bool (b:Bool)
 | int (k:IntKind) (n:Int)
 | str (s:List UInt8)
 | nilp | nilm | nilf | nili
 | agg (cs:List AV)
 | tup (cs:List AV)
 | sl (nl:Bool) (es:List AV) (cl:Bool)
 | fp (v:AV)
 | rf (k e off len cap:Nat)
 | pt (k e off:Nat)
 | mp (k e:Nat)
 | fn (f:Nat) (cs:List AV)
 | ifc (v:AV)
 | os (es:List AV) (esz:Nat) (ag:Bool)
 deriving Inhabited
inductive Ob where
 | blk (cs:List AV) (esz:Nat) (ag ti fz:Bool)
 | mpo (es:List (AV × AV))
 | dead
 deriving Inhabited
structure Ent where
 k:Nat
 e:Nat
 o:Ob
 deriving Inhabited
abbrev Hp:=List Ent
def Hp.get:Hp→Nat→Option (Nat × Ob)
 | [],_=>none
 | x :: r,k=>if x.k=k then some (x.e,x.o) else Hp.get r k
def Hp.put:Hp→Nat→Nat→Ob→Hp
 | [],k,e,o=>[⟨k,e,o⟩]
 | x :: r,k,e,o=>if k < x.k then ⟨k,e,o⟩ :: x :: r else if x.k=k then ⟨k,e,o⟩ :: r else x :: Hp.put r k e o
def Hp.next (h:Hp) (k:Nat):Nat:=match h.get k with | some (e,_)=>e+1 | none=>0
def AV.cells:AV→List AV
 | .agg cs=>cs
 | v=>[v]
def AV.isAgg:AV→Bool
 | .agg _=>true
 | _=>false
def AV.one:AV→Bool
 | .top | .agg _ | .tup _ | .os .. => false
 | _=>true
def allOne:List AV→Bool
 | []=>true
 | x :: r=>x.one&&allOne r
def AV.fits (v:AV) (sz:Nat) (ag:Bool):Bool:=
 match v with
 | .agg cs=>ag&&cs.length == sz
 | .top | .tup _ | .os .. => false
 | _ => !ag&&sz == 1
mutual
def AV.tree:AV→Bool
 | .rf .. | .pt .. | .mp .. | .os .. => false
 | .agg cs | .tup cs=>treeL cs
 | .sl _ es _=>treeL es
 | .fp v | .ifc v=>v.tree
 | .fn _ cs=>treeL cs
 | _=>true
def treeL:List AV→Bool
 | []=>true
 | x :: r=>x.tree&&treeL r
end
mutual
def AV.flat:AV→Bool
 | .rf .. | .pt .. | .mp .. | .fp _=>false
 | .agg cs | .tup cs=>flatL cs
 | .sl _ es _=>es.isEmpty
 | .ifc v=>v.flat
 | .fn _ cs=>flatL cs
 | .os es _ _=>flatL es
 | _=>true
def flatL:List AV→Bool
 | []=>true
 | x :: r=>x.flat&&flatL r
end
def chunk (esz:Nat) (ag:Bool):Nat→List AV→Option (List AV)
 | 0,_=>some []
 | n+1,cs=>
  if ag then
   if cs.length < esz then none else (chunk esz ag n (cs.drop esz)).map (.agg (cs.take esz) :: ·)
  else
   match esz,cs with
   | 1,c :: r=>if c.isAgg then none else (chunk esz ag n r).map (c :: ·)
   | _,_=>none
def unchunk (esz:Nat) (ag:Bool):List AV→Option (List AV)
 | []=>some []
 | x :: r=>if x.fits esz ag&&allOne x.cells then (unchunk esz ag r).map (x.cells ++ ·) else none
def mapS (f:AV→Option (AV × List Nat)):List AV→Option (List AV × List Nat)
 | []=>some ([],[])
 | x :: r=>
  match f x with
  | none=>none
  | some (y,s)=>
   match mapS f r with
   | none=>none
   | some (l,s')=>some (y :: l,s++s')
def snap:Nat→Hp→AV→Option (AV × List Nat)
 | 0,_,_=>none
 | d+1,h,v=>
  if v.tree then some (v,[]) else
  match v with
  | .agg cs=>(mapS (snap d h) cs).map fun (l,s)=>(.agg l,s)
  | .tup cs=>(mapS (snap d h) cs).map fun (l,s)=>(.tup l,s)
  | .sl nl es cl=>(mapS (snap d h) es).map fun (l,s)=>(.sl nl l cl,s)
  | .ifc v=>(snap d h v).map fun (x,s)=>(.ifc x,s)
  | .fn f cs=>(mapS (snap d h) cs).map fun (l,s)=>(.fn f l,s)
  | .rf k e off len cap=>
   match h.get k with
   | some (e',.blk cs esz ag ti _)=>
    if e'=e then
     match chunk esz ag len (cs.drop off) with
     | some es=>(mapS (snap d h) es).map fun (l,s)=>(.sl false l (ti&&len == cap),k :: s)
     | none=>none
    else none
   | _=>none
  | .pt k e off=>
   match h.get k with
   | some (e',.blk cs esz ag _ _)=>
    if e'=e∧off=0∧esz=cs.length then
     match mapS (snap d h) cs with
     | some (l,s)=>if ag then some (.fp (.agg l),k :: s) else match l with | [v]=>if v.isAgg then none else some (.fp v,k :: s) | _=>none
     | none=>none
    else none
   | _=>none
  | _=>none
def depth:Nat:=64
def freezeK (h:Hp):List Nat→List Ent
 | []=>[]
 | k :: r=>
  match h.get k with
  | some (e,.blk cs esz ag ti false)=>⟨k,e,.blk cs esz ag ti true⟩ :: freezeK (h.put k e (.blk cs esz ag ti true)) r
  | _=>freezeK h r
def putAll (h:Hp):List Ent→Hp
 | []=>h
 | x :: r=>putAll (h.put x.k x.e x.o) r
def conv (h:Hp) (v:AV):Option AV:=
 match v with
 | .rf k e off len cap=>
  match h.get k with
  | some (e',.blk cs esz ag _ false)=>
   if e'=e then
    match chunk esz ag len (cs.drop off) with
    | some es=>
     match mapS (snap depth h) es with
     | some (l,s)=>if s.contains k then none else some (.os l esz ag)
     | none=>none
    | none=>none
   else none
  | _=>(snap depth h (.rf k e off len cap)).map (·.1)
 | v=>(snap depth h v).map (·.1)
def receive (h:Hp) (k:Nat) (th:Bool) (r:AV):Option (AV × List Ent):=
 match r with
 | .os es esz ag=>
  if th then
   match unchunk esz ag es with
   | some cs=>some (.rf k (h.next k) 0 es.length es.length,[⟨k,h.next k,.blk cs esz ag false false⟩])
   | none=>none
  else some (.sl false es false,[])
 | v=>some (v,[])
def wr (k:IntKind) (n:Int):Int:=
 match k with
 | .i64=>if -9223372036854775808≤n∧n≤9223372036854775807 then n else k.wrap n
 | .u8=>if 0≤n∧n≤255 then n else k.wrap n
 | .u64=>if 0≤n∧n≤18446744073709551615 then n else k.wrap n
 | .i32=>if -2147483648≤n∧n≤2147483647 then n else k.wrap n
 | .u32=>if 0≤n∧n≤4294967295 then n else k.wrap n
 | _=>k.wrap n
def bits (k:IntKind) (f:BitVec k.bits→BitVec k.bits→BitVec k.bits) (a b:Int):AV:=
 .int k (k.wrap (f (BitVec.ofInt k.bits a) (BitVec.ofInt k.bits b)).toNat)
def binI (op:BinOp) (k:IntKind) (a b:Int):Option AV:=
 match op with
 | .add=>some (.int k (wr k (a+b)))
 | .sub=>some (.int k (wr k (a - b)))
 | .mul=>some (.int k (wr k (a*b)))
 | .quo=>if b=0 then none else some (.int k (wr k (a.tdiv b)))
 | .rem=>if b=0 then none else some (.int k (a.tmod b))
 | .and=>some (bits k (· &&& ·) a b)
 | .or=>some (bits k (· ||| ·) a b)
 | .xor=>some (bits k (· ^^^ ·) a b)
 | .andNot=>some (bits k (fun x y=>x &&& ~~~y) a b)
 | .eql=>some (.bool (decide (a=b)))
 | .neq=>some (.bool (!decide (a=b)))
 | .lss=>some (.bool (decide (a < b)))
 | .leq=>some (.bool (decide (a≤b)))
 | .gtr=>some (.bool (decide (b < a)))
 | .geq=>some (.bool (decide (b≤a)))
 | _=>none
def binS (op:BinOp) (a b:List UInt8):Option AV:=
 match op with
 | .add=>if a.length+b.length≤9223372036854775807 then some (.str (a++b)) else none
 | .eql=>some (.bool (decide (a=b)))
 | .neq=>some (.bool (!decide (a=b)))
 | .lss=>some (.bool (Op.bytesLess a b))
 | .leq=>some (.bool (Op.bytesLess a b||decide (a=b)))
 | .gtr=>some (.bool (!(Op.bytesLess a b||decide (a=b))))
 | .geq=>some (.bool (!Op.bytesLess a b))
 | _=>none
def bin (op:BinOp) (x y:AV):Option AV:=
 match x,y with
 | .int k a,.int k' b=>
  match op with
  | .shl=>if b < 0 then none else some (.int k (k.wrap (a*2 ^ (min b.toNat k.bits))))
  | .shr=>if b < 0 then none else some (.int k (a.fdiv (2 ^ (min b.toNat k.bits))))
  | _=>if k=k' then binI op k a b else none
 | .str a,.str b=>binS op a b
 | _,_=>none
def AV.isNil:Nat→AV→Option Bool
 | 0,.nilp=>some true
 | 0,.fp _=>some false
 | 0,.pt .. => some false
 | 1,.sl nl _ _=>some nl
 | 1,.rf .. => some false
 | 2,.nilm=>some true
 | 2,.mp .. => some false
 | 3,.nilf=>some true
 | 3,.fn .. => some false
 | 4,.nili=>some true
 | 4,.ifc _=>some false
 | _,_=>none
def eq1:AV→AV→Option Bool
 | .int k a,.int k' b=>if k=k' then some (decide (a=b)) else none
 | .str a,.str b=>some (decide (a=b))
 | .bool a,.bool b=>some (a == b)
 | _,_=>none
def eqC:List Nat→List AV→List AV→Option Bool
 | [],[],[]=>some true
 | q :: qs,x :: r,y :: s=>
  match (match q,x,y with
   | 0,.int k a,.int k' b=>if k=k' then some (decide (a=b)) else none
   | 1,.str a,.str b=>some (decide (a=b))
   | 2,.bool a,.bool b=>some (a == b)
   | _,_,_=>none),eqC qs r s with
  | some a,some b=>some (a&&b)
  | _,_=>none
 | _,_,_=>none
inductive K where
 | mov
 | pick
 | box
 | alloc (zero:List AV) (ag:Bool)
 | build (zero:List AV) (parts:List (Nat × Nat))
 | mkSl (esz:Nat) (ag:Bool) (own:Bool)
 | load (sz:Nat) (ag:Bool)
 | store (sz:Nat) (ag:Bool)
 | nilc
 | bin (op:BinOp)
 | beq (ng:Bool)
 | eqn (q:Nat) (ng:Bool)
 | eqs (ng:Bool) (qs:List Nat)
 | un (op:UnOp)
 | cvi (k:IntKind)
 | cvs
 | s2b
 | b2s
 | fld (off sz:Nat) (ag:Bool)
 | fad (off sz:Nat) (ag:Bool)
 | iad (esz:Nat) (ag:Bool) (arr:Option Nat)
 | ixs
 | ixa (len esz:Nat) (ag:Bool)
 | slc (esz:Nat) (lo hi mx:Bool)
 | sls (lo hi:Bool)
 | sla (len esz:Nat) (lo hi:Bool)
 | mks (esz:Nat) (ag:Bool) (bytes:Nat) (zero:List AV)
 | len (q:Nat)
 | lenc (n:Nat)
 | cap
 | app (esz:Nat) (ag:Bool) (bytes:Nat)
 | apz (esz:Nat) (ag:Bool) (bytes:Nat) (zero:List AV)
 | cpy (esz:Nat) (ag:Bool)
 | clr (esz:Nat) (zero:List AV)
 | mn
 | mx
 | ext (i:Nat)
 | mki
 | mkf (f:Nat)
 | call (f:Nat) (th im:Bool)
 | callv (th im:Bool)
 | mkm
 | mlk (q:Nat) (zero:AV) (ok:Bool)
 | mup (q:Nat)
 | mdel (q:Nat)
 | mkZ (esz:Nat) (ag:Bool)
 | calle (f:Nat)
 | callr (f:Nat)
 | bad
 deriving Inhabited
inductive Eff where
 | pat (rd:List Nat) (pa:List Ent)
 | whole (h:Hp)
 | all (pa:List Ent)
def Eff.app (h:Hp):Eff→Hp
 | .pat _ pa=>putAll h pa
 | .whole h'=>h'
 | .all pa=>putAll h pa
def val (v:AV):Option (AV × Eff):=some (v,.pat [] [])
def partA (cs:List AV) (off sz:Nat) (ag:Bool):Option AV:=
 if ag then if off+sz≤cs.length then some (.agg ((cs.drop off).take sz)) else none
 else cs[off]?
def writeA (cs:List AV) (off:Nat) (new:List AV):List AV:=cs.take off++new++cs.drop (off+new.length)
def fillA (zero:List AV):List (Nat × Nat)→List AV→Option (List AV)
 | [],[]=>some zero
 | (off,sz) :: ps,v :: vs=>
  if v.cells.length=sz∧off+sz≤zero.length∧v.fits sz v.isAgg then fillA (writeA zero off v.cells) ps vs else none
 | _,_=>none
def newA (h:Hp) (k:Nat) (o:Ob) (v:Nat→AV):Option (AV × Eff):=
 some (v (h.next k),.pat [k] [⟨k,h.next k,o⟩])
def srcCells (h:Hp) (esz:Nat) (ag:Bool):AV→Option (List AV × Nat × List Nat)
 | .sl _ es _=>(unchunk esz ag es).map fun cs=>(cs,es.length,[])
 | .str s=>if esz=1∧ag=false then some (s.map fun b => .int .u8 b.toNat,s.length,[]) else none
 | .rf k e off len _=>
  match h.get k with
  | some (e',.blk cs _ _ _ _)=>
   if e'=e∧off+len*esz≤cs.length∧allOne ((cs.drop off).take (len*esz)) then some ((cs.drop off).take (len*esz),len,[k]) else none
  | _=>none
 | _=>none
def bytesOf:List AV→Option (List UInt8)
 | []=>some []
 | .int .u8 n :: r=>if 0≤n∧n≤255 then (bytesOf r).map (UInt8.ofNat n.toNat :: ·) else none
 | _=>none
def appA (h:Hp) (k0 esz:Nat) (ag:Bool) (bytes:Nat) (base:AV) (src:List AV) (n:Nat) (rd:List Nat):Option (AV × Eff):=
 match base with
 | .sl nl es cl=>
  if n=0 then some (base,.pat rd [])
  else if (nl||cl)&&decide (es.length+n≤1073741824)&&decide (bytes≤65536) then
   match unchunk esz ag es with
   | some cs=>some (.rf k0 (h.next k0) 0 (es.length+n) (es.length+n),.pat (k0 :: rd) [⟨k0,h.next k0,.blk (cs++src) esz ag false false⟩])
   | none=>none
  else none
 | .rf k e off len cap=>
  match h.get k with
  | some (e',.blk cs esz' ag' ti fz)=>
   if e'=e∧esz'=esz∧ag'=ag∧off+len*esz≤cs.length then
    if n=0 then some (base,.pat (k :: rd) [])
    else if len+n≤cap then
     if fz then none else some (.rf k e off (len+n) cap,.pat (k :: rd) [⟨k,e,.blk (writeA cs (off+len*esz) src) esz ag ti fz⟩])
    else if decide (len+n≤1073741824)&&decide (bytes≤65536) && !(k == k0) then
     if ti then some (.rf k0 (h.next k0) 0 (len+n) (len+n),.pat (k0 :: k :: rd) [⟨k0,h.next k0,.blk ((cs.drop off).take (len*esz)++src) esz ag false false⟩])
     else if fz then none
     else some (.rf k0 (h.next k0) 0 (len+n) (len+n),.pat (k0 :: k :: rd) [⟨k,e,.dead⟩,⟨k0,h.next k0,.blk ((cs.drop off).take (len*esz)++src) esz ag false false⟩])
    else if decide (len+n≤1073741824)&&decide (bytes≤65536) && !fz then
     some (.rf k0 (e+1) 0 (len+n) (len+n),.pat (k :: rd) [⟨k0,e+1,.blk ((cs.drop off).take (len*esz)++src) esz ag false false⟩])
    else none
   else none
  | _=>none
 | _=>none
def sliceA (h:Hp) (esz:Nat) (x:AV) (lo hi mx:Option Int):Option (AV × Eff):=
 let l:=lo.getD 0
 match x with
 | .sl nl es cl=>
  let hh:=hi.getD es.length
  let m:=mx.getD hh
  if 0≤l∧l≤hh∧hh≤m∧m≤es.length∧(es.all fun v=>v.cells.length == esz) then
   val (.sl nl ((es.drop l.toNat).take (hh.toNat - l.toNat)) (if mx.isSome then m == hh else (nl||cl)&&hh == es.length))
  else none
 | .rf k e off len cap=>
  match h.get k with
  | some (e',.blk _ esz' _ ti _)=>
   let hh:=hi.getD len
   let m:=mx.getD cap
   if e'=e∧esz'=esz∧0≤l∧l≤hh∧hh≤m∧m≤cap∧(ti||mx.isNone)=true∧(l=0∨l < m∨ti=true) then
    some (.rf k e (if m=l then off else off+l.toNat*esz) (hh.toNat - l.toNat) (m.toNat - l.toNat),.pat [k] [])
   else if e'=e∧0≤l∧l=hh∧hh≤m∧m≤cap then some (.sl false [] false,.pat [k] [])
   else none
  | _=>none
 | _=>none
def optI (b:Bool):List AV→Option (Option Int × List AV)
 | []=>if b then none else some (none,[])
 | .int k n :: r=>if b then some (some n,r) else some (none,.int k n :: r)
 | x :: r=>if b then none else some (none,x :: r)
def mapFind:List (AV × AV)→AV→Option (Option AV)
 | [],_=>some none
 | (k,v) :: r,x=>
  match eq1 x k with
  | some true=>some (some v)
  | some false=>mapFind r x
  | none=>none
def mapSet:List (AV × AV)→AV→AV→List (AV × AV)
 | [],x,v=>[(x,v)]
 | (k,u) :: r,x,v=>match eq1 x k with | some true=>(x,v) :: r | _=>(k,u) :: mapSet r x v
def mapDel:List (AV × AV)→AV→List (AV × AV)
 | [],_=>[]
 | (k,u) :: r,x=>match eq1 x k with | some true=>r | _=>(k,u) :: mapDel r x
def AV.keyQ:Nat→AV→Bool
 | 0,.int .. => true
 | 1,.str _=>true
 | 2,.bool _=>true
 | _,_=>false
def AV.key:AV→Bool
 | .int .. | .str _ | .bool _=>true
 | _=>false
def min2:AV→AV→Option AV
 | .int k x,.int k' y=>if k=k' then some (.int k (if y < x then y else x)) else none
 | _,_=>none
def max2:AV→AV→Option AV
 | .int k x,.int k' y=>if k=k' then some (.int k (if x < y then y else x)) else none
 | _,_=>none
def foldA (f:AV→AV→Option AV):AV→List AV→Option AV
 | x,[]=>some x
 | x,y :: r=>match f x y with | some z=>foldA f z r | none=>none
def op1 (h:Hp) (k0:Nat) (o:K) (xs:List AV):Option (AV × Eff):=
 match o,xs with
 | .mov,[x]=>val x
 | .pick,[c,a,b]=>match c with | .bool t=>val (if t then a else b) | _=>none
 | .box,[v]=>if v.fits v.cells.length v.isAgg then newA h k0 (.blk v.cells v.cells.length v.isAgg true false) (fun e => .pt k0 e 0) else none
 | .alloc zero ag,[]=>newA h k0 (.blk zero zero.length ag true false) (fun e => .pt k0 e 0)
 | .build zero parts,vs=>(fillA zero parts vs).bind fun cs=>val (.agg cs)
 | .mkSl esz ag own,vs=>
  if own then
   match unchunk esz ag vs with
   | some cs=>newA h k0 (.blk cs esz ag true false) (fun e => .rf k0 e 0 vs.length vs.length)
   | none=>none
  else if vs.all fun v=>v.fits esz ag then val (.sl false vs true) else none
 | .load sz ag,[p]=>match p with
  | .fp v=>if v.fits sz ag then val v else none
  | .pt k e off=>match h.get k with
   | some (e',.blk cs _ _ _ _)=>if e'=e then (partA cs off sz ag).map fun v=>(v,.pat [k] []) else none
   | _=>none
  | _=>none
 | .store sz ag,[p,v]=>match p with
  | .pt k e off=>match h.get k with
   | some (e',.blk cs esz ag' ti false)=>
    if e'=e∧off+sz≤cs.length∧v.fits sz ag∧allOne v.cells then
     some (.tup [],.pat [k] [⟨k,e,.blk (writeA cs off v.cells) esz ag' ti false⟩])
    else none
   | _=>none
  | _=>none
 | .nilc,[x]=>match x with | .pt .. | .fp _=>val x | _=>none
 | .bin op,[x,y]=>(bin op x y).bind val
 | .eqn q ng,[x]=>match x.isNil q with | some b=>val (.bool (if ng then !b else b)) | none=>none
 | .beq ng,[x,y]=>match x,y with
  | .bool a,.bool b=>val (.bool (if ng then !(a == b) else a == b))
  | _,_=>none
 | .eqs ng qs,[x,y]=>match x,y with
  | .agg cs,.agg ds=>match eqC qs cs ds with | some b=>val (.bool (if ng then !b else b)) | none=>none
  | _,_=>none
 | .un op,[x]=>match op,x with
  | .neg,.int k n=>val (.int k (wr k (0 - n)))
  | .not,.bool b=>val (.bool (!b))
  | _,_=>none
 | .cvi k,[x]=>match x with | .int _ n=>val (.int k (wr k n)) | _=>none
 | .cvs,[x]=>match x with | .str s=>val (.str s) | _=>none
 | .s2b,[x]=>match x with | .str s=>val (.sl false (s.map fun b => .int .u8 b.toNat) false) | _=>none
 | .b2s,[x]=>match (match x with | .str _=>none | x=>srcCells h 1 false x) with
  | some (cs,_,rd)=>match bytesOf cs with
   | some bs=>some (.str bs,.pat rd [])
   | none=>none
  | none=>none
 | .fld off sz ag,[x]=>match x with | .agg cs=>(partA cs off sz ag).bind val | _=>none
 | .fad off sz ag,[p]=>match p with
  | .fp (.agg cs)=>(partA cs off sz ag).bind fun v=>if v.fits sz ag then val (.fp v) else none
  | .pt k e o=>val (.pt k e (o+off))
  | _=>none
 | .iad esz ag arr,[x,i]=>match i with
  | .int _ n=>match arr,x with
   | none,.sl _ es _=>if 0≤n then match es[n.toNat]? with
     | some v=>if v.fits esz ag then val (.fp v) else none
     | none=>none
    else none
   | none,.rf k e off len _=>if 0≤n∧n < len then val (.pt k e (off+n.toNat*esz)) else none
   | some len,.fp (.agg cs)=>if 0≤n∧n < len then (partA cs (n.toNat*esz) esz ag).bind fun v=>if v.fits esz ag then val (.fp v) else none else none
   | some len,.pt k e off=>if 0≤n∧n < len then val (.pt k e (off+n.toNat*esz)) else none
   | _,_=>none
  | _=>none
 | .ixs,[x,i]=>match x,i with
  | .str s,.int _ n=>if 0≤n then match s[n.toNat]? with | some b=>val (.int .u8 b.toNat) | none=>none else none
  | _,_=>none
 | .ixa len esz ag,[x,i]=>match x,i with
  | .agg cs,.int _ n=>if 0≤n∧n < len then (partA cs (n.toNat*esz) esz ag).bind val else none
  | _,_=>none
 | .slc esz lo hi mx,x :: r=>
  match optI lo r with
  | some (l,r)=>match optI hi r with
   | some (hh,r)=>match optI mx r with
    | some (m,[])=>sliceA h esz x l hh m
    | _=>none
   | none=>none
  | none=>none
 | .sls lo hi,x :: r=>match x with
  | .str s=>match optI lo r with
   | some (l,r)=>match optI hi r with
    | some (hh,[])=>
     let l:=l.getD 0
     let hh:=hh.getD s.length
     if 0≤l∧l≤hh∧hh≤s.length then val (.str ((s.drop l.toNat).take (hh.toNat - l.toNat))) else none
    | _=>none
   | none=>none
  | _=>none
 | .sla len esz lo hi,x :: r=>match x with
  | .pt k e off=>match optI lo r with
   | some (l,r)=>match optI hi r with
    | some (hh,[])=>
     let l:=l.getD 0
     let hh:=hh.getD len
     match h.get k with
     | some (e',.blk cs esz' _ true _)=>
      if e'=e∧esz'=esz∧0≤l∧l≤hh∧hh≤len∧off+len*esz≤cs.length then
       some (.rf k e (if (len:Int)=l then off else off+l.toNat*esz) (hh.toNat - l.toNat) (len - l.toNat),.pat [k] [])
      else none
     | _=>none
    | _=>none
   | none=>none
  | _=>none
 | .mks esz ag bytes zero,[l,c]=>match l,c with
  | .int _ l,.int _ c=>
   if 0≤l∧l≤c∧c≤1073741824∧bytes≤65536∧zero.length=esz then
    newA h k0 (.blk (List.replicate c.toNat zero).flatten esz ag true false) (fun e => .rf k0 e 0 l.toNat c.toNat)
   else none
  | _,_=>none
 | .len 0,[x]=>match x with | .str s=>val (.int .i64 s.length) | _=>none
 | .len 1,[x]=>match x with
  | .sl _ es _=>val (.int .i64 es.length)
  | .rf _ _ _ len _=>val (.int .i64 len)
  | _=>none
 | .len 2,[x]=>match x with
  | .nilm=>val (.int .i64 0)
  | .mp k e=>match h.get k with
   | some (e',.mpo es)=>if e'=e then some (.int .i64 es.length,.pat [k] []) else none
   | _=>none
  | _=>none
 | .lenc n,[_]=>val (.int .i64 n)
 | .cap,[x]=>match x with
  | .sl nl es cl=>if nl||cl then val (.int .i64 es.length) else none
  | .rf k e _ _ cap=>match h.get k with
   | some (e',.blk _ _ _ true _)=>if e'=e then some (.int .i64 cap,.pat [k] []) else none
   | _=>none
  | _=>none
 | .app esz ag bytes,[x,y]=>match srcCells h esz ag y with
  | some (cs,n,rd)=>appA h k0 esz ag bytes x cs n rd
  | none=>none
 | .apz esz ag bytes zero,[x,y]=>match y with
  | .int _ n=>if 0≤n∧n≤1073741824∧bytes≤65536∧zero.length=esz∧allOne zero then
    appA h k0 esz ag bytes x (List.replicate n.toNat zero).flatten n.toNat [] else none
  | _=>none
 | .cpy esz ag,[x,y]=>match x with
  | .rf k e off len _=>match h.get k,srcCells h esz ag y with
   | some (e',.blk cs esz' ag' ti false),some (new,n,rd)=>
    if e'=e∧off+len*esz≤cs.length then
     some (.int .i64 (min n len:Nat),.pat (k :: rd) [⟨k,e,.blk (writeA cs off (new.take (min n len*esz))) esz' ag' ti false⟩])
    else none
   | _,_=>none
  | _=>none
 | .clr esz zero,[x]=>match x with
  | .sl _ [] _=>val (.tup [])
  | .rf k e off len _=>match h.get k with
   | some (e',.blk cs esz' ag' ti false)=>
    if e'=e∧off+len*esz≤cs.length∧zero.length=esz∧allOne zero then
     some (.tup [],.pat [k] [⟨k,e,.blk (writeA cs off (List.replicate len zero).flatten) esz' ag' ti false⟩])
    else none
   | _=>none
  | _=>none
 | .mn,x :: r=>(foldA min2 x r).bind val
 | .mx,x :: r=>(foldA max2 x r).bind val
 | .ext i,[x]=>match x with | .tup vs=>(vs[i]?).bind val | _=>none
 | .mki,[x]=>if x.fits x.cells.length x.isAgg then val (.ifc x) else none
 | .mkf f,cs=>val (.fn f cs)
 | .mkm,[]=>newA h k0 (.mpo []) (fun e => .mp k0 e)
 | .mlk q zero ok,[m,x]=>match m with
  | .nilm=>if x.keyQ q then val (if ok then .tup [zero,.bool false] else zero) else none
  | .mp k e=>match h.get k with
   | some (e',.mpo es)=>if e'=e∧x.keyQ q then match mapFind es x with
     | some (some v)=>some (if ok then .tup [v,.bool true] else v,.pat [k] [])
     | some none=>some (if ok then .tup [zero,.bool false] else zero,.pat [k] [])
     | none=>none
    else none
   | _=>none
  | _=>none
 | .mup q,[m,x,v]=>match m with
  | .mp k e=>match h.get k with
   | some (e',.mpo es)=>if e'=e∧x.keyQ q∧v.fits v.cells.length v.isAgg then match mapFind es x with
     | some _=>some (.tup [],.pat [k] [⟨k,e,.mpo (mapSet es x v)⟩])
     | none=>none
    else none
   | _=>none
  | _=>none
 | .mdel q,[m,x]=>match m with
  | .nilm=>if x.keyQ q then val (.tup []) else none
  | .mp k e=>match h.get k with
   | some (e',.mpo es)=>if e'=e∧x.keyQ q then match mapFind es x with
     | some _=>some (.tup [],.pat [k] [⟨k,e,.mpo (mapDel es x)⟩])
     | none=>none
    else none
   | _=>none
  | _=>none
 | .mkZ esz ag,vs=>match mapS (snap depth h) vs with
  | some (ts,keys)=>if ts.all fun v=>v.fits esz ag then some (.sl false ts true,.pat keys (freezeK h keys)) else none
  | none=>none
 | _,_=>none
def eqS:List UInt8→List UInt8→Bool
 | [],[]=>true
 | x :: r,y :: s=>bif x.toNat.beq y.toNat then eqS r s else false
 | _,_=>false
theorem eqS_eq:∀ (a b:List UInt8),eqS a b=decide (a=b)
 | [],[]=>by simp [eqS]
 | [],_ :: _=>by simp [eqS]
 | _ :: _,[]=>by simp [eqS]
 | x :: r,y :: s=>by
  simp only [eqS,cond_eq_ite,Nat.beq_eq,eqS_eq r s]
  by_cases h:x=y
  ·subst h;simp
  ·have:x.toNat ≠ y.toNat:=fun q=>h (UInt8.toNat_inj.1 q)
   rw [if_neg this]
   simp [h]
def binF (op:BinOp) (x y:AV):Option AV:=
 match x,y with
 | .str a,.str b=>
  match op with
  | .eql=>some (.bool (eqS a b))
  | .neq=>some (.bool (!eqS a b))
  | _=>binS op a b
 | x,y=>bin op x y
theorem binF_eq (op:BinOp) (x y:AV):binF op x y=bin op x y:=by
 cases x<;>cases y<;>first
  | rfl
  | (cases op<;>first | rfl | simp only [binF,bin,binS,eqS_eq])
def f_mov (xs:List AV):Option (AV × Eff):=
 match xs with
 | [x]=>val x
 | _=>none
def f_pick (xs:List AV):Option (AV × Eff):=
 match xs with
 | [c,a,b]=>match c with | .bool t=>val (if t then a else b) | _=>none
 | _=>none
def f_box (h:Hp) (k0:Nat) (xs:List AV):Option (AV × Eff):=
 match xs with
 | [v]=>if v.fits v.cells.length v.isAgg then newA h k0 (.blk v.cells v.cells.length v.isAgg true false) (fun e => .pt k0 e 0) else none
 | _=>none
def f_alloc (h:Hp) (k0:Nat) (zero:List AV) (ag:Bool) (xs:List AV):Option (AV × Eff):=
 match xs with
 | []=>newA h k0 (.blk zero zero.length ag true false) (fun e => .pt k0 e 0)
 | _=>none
def f_build (zero:List AV) (parts:List (Nat × Nat)) (xs:List AV):Option (AV × Eff):=
 match xs with
 | vs=>(fillA zero parts vs).bind fun cs=>val (.agg cs)
def f_mkSl (h:Hp) (k0:Nat) (esz:Nat) (ag:Bool) (own:Bool) (xs:List AV):Option (AV × Eff):=
 match xs with
 | vs=>
  if own then
   match unchunk esz ag vs with
   | some cs=>newA h k0 (.blk cs esz ag true false) (fun e => .rf k0 e 0 vs.length vs.length)
   | none=>none
  else if vs.all fun v=>v.fits esz ag then val (.sl false vs true) else none
def f_load (h:Hp) (sz:Nat) (ag:Bool) (xs:List AV):Option (AV × Eff):=
 match xs with
 | [p]=>match p with
  | .fp v=>if v.fits sz ag then val v else none
  | .pt k e off=>match h.get k with
   | some (e',.blk cs _ _ _ _)=>if e'=e then (partA cs off sz ag).map fun v=>(v,.pat [k] []) else none
   | _=>none
  | _=>none
 | _=>none
def f_store (h:Hp) (sz:Nat) (ag:Bool) (xs:List AV):Option (AV × Eff):=
 match xs with
 | [p,v]=>match p with
  | .pt k e off=>match h.get k with
   | some (e',.blk cs esz ag' ti false)=>
    if e'=e∧off+sz≤cs.length∧v.fits sz ag∧allOne v.cells then
     some (.tup [],.pat [k] [⟨k,e,.blk (writeA cs off v.cells) esz ag' ti false⟩])
    else none
   | _=>none
  | _=>none
 | _=>none
def f_nilc (xs:List AV):Option (AV × Eff):=
 match xs with
 | [x]=>match x with | .pt .. | .fp _=>val x | _=>none
 | _=>none
def f_bin (op:BinOp) (xs:List AV):Option (AV × Eff):=
 match xs with
 | [x,y]=>(binF op x y).bind val
 | _=>none
def f_beq (ng:Bool) (xs:List AV):Option (AV × Eff):=
 match xs with
 | [x,y]=>match x,y with
  | .bool a,.bool b=>val (.bool (if ng then !(a == b) else a == b))
  | _,_=>none
 | _=>none
def f_eqn (q:Nat) (ng:Bool) (xs:List AV):Option (AV × Eff):=
 match xs with
 | [x]=>match x.isNil q with | some b=>val (.bool (if ng then !b else b)) | none=>none
 | _=>none
def f_eqs (ng:Bool) (qs:List Nat) (xs:List AV):Option (AV × Eff):=
 match xs with
 | [x,y]=>match x,y with
  | .agg cs,.agg ds=>match eqC qs cs ds with | some b=>val (.bool (if ng then !b else b)) | none=>none
  | _,_=>none
 | _=>none
def f_un (op:UnOp) (xs:List AV):Option (AV × Eff):=
 match xs with
 | [x]=>match op,x with
  | .neg,.int k n=>val (.int k (wr k (0 - n)))
  | .not,.bool b=>val (.bool (!b))
  | _,_=>none
 | _=>none
def f_cvi (k:IntKind) (xs:List AV):Option (AV × Eff):=
 match xs with
 | [x]=>match x with | .int _ n=>val (.int k (wr k n)) | _=>none
 | _=>none
def f_cvs (xs:List AV):Option (AV × Eff):=
 match xs with
 | [x]=>match x with | .str s=>val (.str s) | _=>none
 | _=>none
def f_s2b (xs:List AV):Option (AV × Eff):=
 match xs with
 | [x]=>match x with | .str s=>val (.sl false (s.map fun b => .int .u8 b.toNat) false) | _=>none
 | _=>none
def f_b2s (h:Hp) (xs:List AV):Option (AV × Eff):=
 match xs with
 | [x]=>match (match x with | .str _=>none | x=>srcCells h 1 false x) with
  | some (cs,_,rd)=>match bytesOf cs with
   | some bs=>some (.str bs,.pat rd [])
   | none=>none
  | none=>none
 | _=>none
def f_fld (off:Nat) (sz:Nat) (ag:Bool) (xs:List AV):Option (AV × Eff):=
 match xs with
 | [x]=>match x with | .agg cs=>(partA cs off sz ag).bind val | _=>none
 | _=>none
def f_fad (off:Nat) (sz:Nat) (ag:Bool) (xs:List AV):Option (AV × Eff):=
 match xs with
 | [p]=>match p with
  | .fp (.agg cs)=>(partA cs off sz ag).bind fun v=>if v.fits sz ag then val (.fp v) else none
  | .pt k e o=>val (.pt k e (o+off))
  | _=>none
 | _=>none
def f_iad (esz:Nat) (ag:Bool) (arr:Option Nat) (xs:List AV):Option (AV × Eff):=
 match xs with
 | [x,i]=>match i with
  | .int _ n=>match arr,x with
   | none,.sl _ es _=>if 0≤n then match es[n.toNat]? with
     | some v=>if v.fits esz ag then val (.fp v) else none
     | none=>none
    else none
   | none,.rf k e off len _=>if 0≤n∧n < len then val (.pt k e (off+n.toNat*esz)) else none
   | some len,.fp (.agg cs)=>if 0≤n∧n < len then (partA cs (n.toNat*esz) esz ag).bind fun v=>if v.fits esz ag then val (.fp v) else none else none
   | some len,.pt k e off=>if 0≤n∧n < len then val (.pt k e (off+n.toNat*esz)) else none
   | _,_=>none
  | _=>none
 | _=>none
def f_ixs (xs:List AV):Option (AV × Eff):=
 match xs with
 | [x,i]=>match x,i with
  | .str s,.int _ n=>if 0≤n then match s[n.toNat]? with | some b=>val (.int .u8 b.toNat) | none=>none else none
  | _,_=>none
 | _=>none
def f_ixa (len:Nat) (esz:Nat) (ag:Bool) (xs:List AV):Option (AV × Eff):=
 match xs with
 | [x,i]=>match x,i with
  | .agg cs,.int _ n=>if 0≤n∧n < len then (partA cs (n.toNat*esz) esz ag).bind val else none
  | _,_=>none
 | _=>none
def f_slc (h:Hp) (esz:Nat) (lo:Bool) (hi:Bool) (mx:Bool) (xs:List AV):Option (AV × Eff):=
 match xs with
 | x :: r=>
  match optI lo r with
  | some (l,r)=>match optI hi r with
   | some (hh,r)=>match optI mx r with
    | some (m,[])=>sliceA h esz x l hh m
    | _=>none
   | none=>none
  | none=>none
 | _=>none
def f_sls (lo:Bool) (hi:Bool) (xs:List AV):Option (AV × Eff):=
 match xs with
 | x :: r=>match x with
  | .str s=>match optI lo r with
   | some (l,r)=>match optI hi r with
    | some (hh,[])=>
     let l:=l.getD 0
     let hh:=hh.getD s.length
     if 0≤l∧l≤hh∧hh≤s.length then val (.str ((s.drop l.toNat).take (hh.toNat - l.toNat))) else none
    | _=>none
   | none=>none
  | _=>none
 | _=>none
def f_sla (h:Hp) (len:Nat) (esz:Nat) (lo:Bool) (hi:Bool) (xs:List AV):Option (AV × Eff):=
 match xs with
 | x :: r=>match x with
  | .pt k e off=>match optI lo r with
   | some (l,r)=>match optI hi r with
    | some (hh,[])=>
     let l:=l.getD 0
     let hh:=hh.getD len
     match h.get k with
     | some (e',.blk cs esz' _ true _)=>
      if e'=e∧esz'=esz∧0≤l∧l≤hh∧hh≤len∧off+len*esz≤cs.length then
       some (.rf k e (if (len:Int)=l then off else off+l.toNat*esz) (hh.toNat - l.toNat) (len - l.toNat),.pat [k] [])
      else none
     | _=>none
    | _=>none
   | none=>none
  | _=>none
 | _=>none
def f_mks (h:Hp) (k0:Nat) (esz:Nat) (ag:Bool) (bytes:Nat) (zero:List AV) (xs:List AV):Option (AV × Eff):=
 match xs with
 | [l,c]=>match l,c with
  | .int _ l,.int _ c=>
   if 0≤l∧l≤c∧c≤1073741824∧bytes≤65536∧zero.length=esz then
    newA h k0 (.blk (List.replicate c.toNat zero).flatten esz ag true false) (fun e => .rf k0 e 0 l.toNat c.toNat)
   else none
  | _,_=>none
 | _=>none
def f_len (h:Hp) (q:Nat) (xs:List AV):Option (AV × Eff):=
 match q,xs with
 | 0,[x]=>match x with | .str s=>val (.int .i64 s.length) | _=>none
 | 1,[x]=>match x with
  | .sl _ es _=>val (.int .i64 es.length)
  | .rf _ _ _ len _=>val (.int .i64 len)
  | _=>none
 | 2,[x]=>match x with
  | .nilm=>val (.int .i64 0)
  | .mp k e=>match h.get k with
   | some (e',.mpo es)=>if e'=e then some (.int .i64 es.length,.pat [k] []) else none
   | _=>none
  | _=>none
 | _,_=>none
def f_lenc (n:Nat) (xs:List AV):Option (AV × Eff):=
 match xs with
 | [_]=>val (.int .i64 n)
 | _=>none
def f_cap (h:Hp) (xs:List AV):Option (AV × Eff):=
 match xs with
 | [x]=>match x with
  | .sl nl es cl=>if nl||cl then val (.int .i64 es.length) else none
  | .rf k e _ _ cap=>match h.get k with
   | some (e',.blk _ _ _ true _)=>if e'=e then some (.int .i64 cap,.pat [k] []) else none
   | _=>none
  | _=>none
 | _=>none
def f_app (h:Hp) (k0:Nat) (esz:Nat) (ag:Bool) (bytes:Nat) (xs:List AV):Option (AV × Eff):=
 match xs with
 | [x,y]=>match srcCells h esz ag y with
  | some (cs,n,rd)=>appA h k0 esz ag bytes x cs n rd
  | none=>none
 | _=>none
def f_apz (h:Hp) (k0:Nat) (esz:Nat) (ag:Bool) (bytes:Nat) (zero:List AV) (xs:List AV):Option (AV × Eff):=
 match xs with
 | [x,y]=>match y with
  | .int _ n=>if 0≤n∧n≤1073741824∧bytes≤65536∧zero.length=esz∧allOne zero then
    appA h k0 esz ag bytes x (List.replicate n.toNat zero).flatten n.toNat [] else none
  | _=>none
 | _=>none
def f_cpy (h:Hp) (esz:Nat) (ag:Bool) (xs:List AV):Option (AV × Eff):=
 match xs with
 | [x,y]=>match x with
  | .rf k e off len _=>match h.get k,srcCells h esz ag y with
   | some (e',.blk cs esz' ag' ti false),some (new,n,rd)=>
    if e'=e∧off+len*esz≤cs.length then
     some (.int .i64 (min n len:Nat),.pat (k :: rd) [⟨k,e,.blk (writeA cs off (new.take (min n len*esz))) esz' ag' ti false⟩])
    else none
   | _,_=>none
  | _=>none
 | _=>none
def f_clr (h:Hp) (esz:Nat) (zero:List AV) (xs:List AV):Option (AV × Eff):=
 match xs with
 | [x]=>match x with
  | .sl _ [] _=>val (.tup [])
  | .rf k e off len _=>match h.get k with
   | some (e',.blk cs esz' ag' ti false)=>
    if e'=e∧off+len*esz≤cs.length∧zero.length=esz∧allOne zero then
     some (.tup [],.pat [k] [⟨k,e,.blk (writeA cs off (List.replicate len zero).flatten) esz' ag' ti false⟩])
    else none
   | _=>none
  | _=>none
 | _=>none
def f_mn (xs:List AV):Option (AV × Eff):=
 match xs with
 | x :: r=>(foldA min2 x r).bind val
 | _=>none
def f_mx (xs:List AV):Option (AV × Eff):=
 match xs with
 | x :: r=>(foldA max2 x r).bind val
 | _=>none
def f_ext (i:Nat) (xs:List AV):Option (AV × Eff):=
 match xs with
 | [x]=>match x with | .tup vs=>(vs[i]?).bind val | _=>none
 | _=>none
def f_mki (xs:List AV):Option (AV × Eff):=
 match xs with
 | [x]=>if x.fits x.cells.length x.isAgg then val (.ifc x) else none
 | _=>none
def f_mkf (f:Nat) (xs:List AV):Option (AV × Eff):=
 match xs with
 | cs=>val (.fn f cs)
def f_mkm (h:Hp) (k0:Nat) (xs:List AV):Option (AV × Eff):=
 match xs with
 | []=>newA h k0 (.mpo []) (fun e => .mp k0 e)
 | _=>none
def f_mlk (h:Hp) (q:Nat) (zero:AV) (ok:Bool) (xs:List AV):Option (AV × Eff):=
 match xs with
 | [m,x]=>match m with
  | .nilm=>if x.keyQ q then val (if ok then .tup [zero,.bool false] else zero) else none
  | .mp k e=>match h.get k with
   | some (e',.mpo es)=>if e'=e∧x.keyQ q then match mapFind es x with
     | some (some v)=>some (if ok then .tup [v,.bool true] else v,.pat [k] [])
     | some none=>some (if ok then .tup [zero,.bool false] else zero,.pat [k] [])
     | none=>none
    else none
   | _=>none
  | _=>none
 | _=>none
def f_mup (h:Hp) (q:Nat) (xs:List AV):Option (AV × Eff):=
 match xs with
 | [m,x,v]=>match m with
  | .mp k e=>match h.get k with
   | some (e',.mpo es)=>if e'=e∧x.keyQ q∧v.fits v.cells.length v.isAgg then match mapFind es x with
     | some _=>some (.tup [],.pat [k] [⟨k,e,.mpo (mapSet es x v)⟩])
     | none=>none
    else none
   | _=>none
  | _=>none
 | _=>none
def f_mdel (h:Hp) (q:Nat) (xs:List AV):Option (AV × Eff):=
 match xs with
 | [m,x]=>match m with
  | .nilm=>if x.keyQ q then val (.tup []) else none
  | .mp k e=>match h.get k with
   | some (e',.mpo es)=>if e'=e∧x.keyQ q then match mapFind es x with
     | some _=>some (.tup [],.pat [k] [⟨k,e,.mpo (mapDel es x)⟩])
     | none=>none
    else none
   | _=>none
  | _=>none
 | _=>none
def f_mkZ (h:Hp) (esz:Nat) (ag:Bool) (vs:List AV):Option (AV × Eff):=
 match mapS (snap depth h) vs with
 | some (ts,keys)=>if ts.all fun v=>v.fits esz ag then some (.sl false ts true,.pat keys (freezeK h keys)) else none
 | none=>none
def op1F (h:Hp) (k0:Nat) (o:K) (xs:List AV):Option (AV × Eff):=
 match o with
 | .mov=>f_mov xs
 | .pick=>f_pick xs
 | .box=>f_box h k0 xs
 | .alloc zero ag=>f_alloc h k0 zero ag xs
 | .build zero parts=>f_build zero parts xs
 | .mkSl esz ag own=>f_mkSl h k0 esz ag own xs
 | .load sz ag=>f_load h sz ag xs
 | .store sz ag=>f_store h sz ag xs
 | .nilc=>f_nilc xs
 | .bin op=>f_bin op xs
 | .beq ng=>f_beq ng xs
 | .eqn q ng=>f_eqn q ng xs
 | .eqs ng qs=>f_eqs ng qs xs
 | .un op=>f_un op xs
 | .cvi k=>f_cvi k xs
 | .cvs=>f_cvs xs
 | .s2b=>f_s2b xs
 | .b2s=>f_b2s h xs
 | .fld off sz ag=>f_fld off sz ag xs
 | .fad off sz ag=>f_fad off sz ag xs
 | .iad esz ag arr=>f_iad esz ag arr xs
 | .ixs=>f_ixs xs
 | .ixa len esz ag=>f_ixa len esz ag xs
 | .slc esz lo hi mx=>f_slc h esz lo hi mx xs
 | .sls lo hi=>f_sls lo hi xs
 | .sla len esz lo hi=>f_sla h len esz lo hi xs
 | .mks esz ag bytes zero=>f_mks h k0 esz ag bytes zero xs
 | .len q=>f_len h q xs
 | .lenc n=>f_lenc n xs
 | .cap=>f_cap h xs
 | .app esz ag bytes=>f_app h k0 esz ag bytes xs
 | .apz esz ag bytes zero=>f_apz h k0 esz ag bytes zero xs
 | .cpy esz ag=>f_cpy h esz ag xs
 | .clr esz zero=>f_clr h esz zero xs
 | .mn=>f_mn xs
 | .mx=>f_mx xs
 | .ext i=>f_ext i xs
 | .mki=>f_mki xs
 | .mkf f=>f_mkf f xs
 | .call _ _ _=>none
 | .callv _ _=>none
 | .mkm=>f_mkm h k0 xs
 | .mlk q zero ok=>f_mlk h q zero ok xs
 | .mup q=>f_mup h q xs
 | .mdel q=>f_mdel h q xs
 | .mkZ esz ag=>f_mkZ h esz ag xs
 | .calle _=>none
 | .callr _=>none
 | .bad=>none
theorem op1F_eq (h:Hp) (k0:Nat) (o:K) (xs:List AV):op1F h k0 o xs=op1 h k0 o xs:=by
 cases o with
 | bin op=>
  rcases xs with _ | ⟨x,_ | ⟨y,_ | ⟨z,r⟩⟩⟩
  ·rfl
  ·rfl
  ·show (binF op x y).bind val=(bin op x y).bind val
   rw [binF_eq]
  ·rfl
 | len q=>rcases q with _ | _ | _ | q<;>rcases xs with _ | ⟨x,_ | ⟨y,r⟩⟩<;>rfl
 | _=>first
  | rfl
  | (rcases xs with _ | ⟨x,_ | ⟨y,_ | ⟨z,_ | ⟨u,r⟩⟩⟩⟩<;>rfl)
inductive X where
 | t (n:Nat)
 | c (v:AV)
 | g (n:Nat)
 | f (n:Nat)
 deriving Inhabited
structure R where
 d:Option Nat
 k:K
 xs:List X
 gd:Option (Nat × Bool):=none
 bef:Nat:=0
 s:Nat:=0
 deriving Inhabited
inductive C where
 | skip
 | reg (rs:List R) (draw:Bool)
 | seq (a b:C)
 | cond (c:X) (a b:C)
 | block (id:Nat) (b:C)
 | loop (b:C) (clr:List Bool)
 | exit (id:Nat)
 | ret
 | bad
 deriving Inhabited
structure CF where
 np:Nat
 nt:Nat
 res:List (Sum Nat (Nat × Nat × Bool))
 body:C
 deriving Inhabited
structure Pg where
 fs:Nat→Option CF
 gl:Nat→Option AV
 ex:Nat→Option (List AV→Nat→Hp→Option (AV × Hp)):=fun _=>none
def getT (env:List AV) (t:Nat):AV:=(env[t]?).getD .top
def X.ev (gl:Nat→Option AV) (env:List AV):X→AV
 | .t n=>getT env n
 | .c v=>v
 | .g n=>match gl n with | some v => .fp v | none => .top
 | .f n => .fn n []
structure St where
 env:List AV
 hp:Hp
inductive Ex where
 | nor
 | ext (id:Nat)
 | ret
 deriving DecidableEq
abbrev Caller:=Nat→List AV→Nat→Hp→Option (AV × Hp)
def callP (call:Caller) (f:Nat) (ts:List AV):Option AV:=
 match call f ts 0 [] with
 | some (r,h)=>conv h r
 | none=>none
def baseOf (kb s:Nat) (vs:List AV):Nat:=
 if vs.any (fun v=>match v with | .rf k _ _ _ _=>decide ((kb+s+1)*65536≤k)&&decide (k < (kb+s+1)*65536+32768) | _=>false) then (kb+s+1)*65536+32768 else (kb+s+1)*65536
def callA (call:Caller) (kb s:Nat) (h:Hp) (f:Nat) (th im:Bool) (vs:List AV):Option (AV × Eff):=
 match (if im then none else mapS (snap depth h) vs) with
 | some (ts,keys)=>
  match callP call f ts with
  | some r=>
   match receive h (kb+s) th r with
   | some (v,pa)=>some (v,.pat ((kb+s) :: keys) ((if r.flat then [] else freezeK h keys)++pa))
   | none=>none
  | none=>none
 | none=>
  match call f vs (baseOf kb s vs) h with
  | some (r,h')=>some (r,.whole h')
  | none=>none
mutual
def eqA:AV→AV→Bool
 | .top,.top=>true
 | .bool a,.bool b=>a == b
 | .int k a,.int k' b=>decide (k=k')&&decide (a=b)
 | .str a,.str b=>eqS a b
 | .nilp,.nilp | .nilm,.nilm | .nilf,.nilf | .nili,.nili=>true
 | .agg a,.agg b=>eqAL a b
 | .tup a,.tup b=>eqAL a b
 | .sl n a c,.sl n' b c'=>(n == n')&&eqAL a b&&(c == c')
 | .fp a,.fp b=>eqA a b
 | .rf k e o l c,.rf k' e' o' l' c'=>(k == k')&&(e == e')&&(o == o')&&(l == l')&&(c == c')
 | .pt k e o,.pt k' e' o'=>(k == k')&&(e == e')&&(o == o')
 | .mp k e,.mp k' e'=>(k == k')&&(e == e')
 | .fn f a,.fn g b=>(f == g)&&eqAL a b
 | .ifc a,.ifc b=>eqA a b
 | _,_=>false
def eqAL:List AV→List AV→Bool
 | [],[]=>true
 | x :: r,y :: s=>eqA x y&&eqAL r s
 | _,_=>false
end
def eqML:List (AV × AV)→List (AV × AV)→Bool
 | [],[]=>true
 | x :: r,y :: s=>eqA x.1 y.1&&eqA x.2 y.2&&eqML r s
 | _,_=>false
def eqOb:Ob→Ob→Bool
 | .blk a n b c d,.blk a' n' b' c' d'=>eqAL a a'&&(n == n')&&(b == b')&&(c == c')&&(d == d')
 | .mpo a,.mpo b=>eqML a b
 | .dead,.dead=>true
 | _,_=>false
def eqEnt:Option (Nat × Ob)→Option (Nat × Ob)→Bool
 | none,none=>true
 | some x,some y=>(x.1 == y.1)&&eqOb x.2 y.2
 | _,_=>false
def nodupK:Hp→Bool
 | []=>true
 | x :: r=>(r.all fun y => !(y.k == x.k))&&nodupK r
def tryE (call:Caller) (h:Hp) (f:Nat) (vs:List AV):Nat→Nat→Option (AV × List Nat × List Ent)
 | 0,_=>none
 | n+1,b=>
  match call f vs b [] with
  | some (r,h0)=>
   if nodupK h0&&(h0.all fun x=>(h.get x.k).isNone) then some (r,h0.map (·.k),h0)
   else match tryE call h f vs n (b+4096) with
    | some (r',rd,pa)=>some (r',h0.map (·.k)++rd,pa)
    | none=>none
  | none=>none
def callE0 (call:Caller) (kb s:Nat) (h:Hp) (f:Nat) (vs:List AV):Option (AV × Eff):=
 if treeL vs then
  match tryE call h f vs 7 ((kb+s+1)*65536) with
  | some (r,rd,pa)=>some (r,.pat rd pa)
  | none=>none
 else none
def callR0 (call:Caller) (kb s:Nat) (h:Hp) (f:Nat) (vs:List AV):Option (AV × Eff):=
 match call f vs (baseOf kb s vs) h with
 | some (r,h')=>
  let pa:=h'.filter fun x=>(h.get x.k).isNone
  if (h++h').all fun x=>eqEnt ((putAll h pa).get x.k) (h'.get x.k) then some (r,.all pa) else none
 | none=>none
def opR (call:Caller) (kb:Nat) (r:R) (h:Hp) (vs:List AV):Option (AV × Eff):=
 match r.k with
 | .call f th im=>callA call kb r.s h f th im vs
 | .calle f=>callE0 call kb r.s h f vs
 | .callr f=>callR0 call kb r.s h f vs
 | .callv th im=>
  match vs with
  | .fn f cs :: args=>callA call kb r.s h f th im (args++cs)
  | _=>none
 | k=>op1F h (kb+r.s) k vs
def setD (env:List AV) (d:Option Nat) (v:AV):List AV:=
 match d with
 | some d=>env.set d v
 | none=>env
def wanted (env:List AV):Option (Nat × Bool)→Option Bool
 | none=>some true
 | some (t,b)=>
  match getT env t with
  | .bool c=>some (c == b)
  | .tup []=>some false
  | _=>none
def stepR (gl:Nat→Option AV) (call:Caller) (kb:Nat) (r:R) (st:St):Option (St × Eff):=
 match wanted st.env r.gd with
 | none=>none
 | some false=>some (⟨setD st.env r.d (.tup []),st.hp⟩,.pat [] [])
 | some true=>
  match opR call kb r st.hp (r.xs.map (X.ev gl st.env)) with
  | some (v,eff)=>some (⟨setD st.env r.d v,eff.app st.hp⟩,eff)
  | none=>none
def regs (gl:Nat→Option AV) (call:Caller) (kb:Nat):List R→St→Option St
 | [],st=>some st
 | r :: rs,st=>
  match stepR gl call kb r st with
  | some (st',_)=>regs gl call kb rs st'
  | none=>none
def regsT (gl:Nat→Option AV) (call:Caller) (kb:Nat):List R→St→Option (St × List Eff)
 | [],st=>some (st,[])
 | r :: rs,st=>
  match stepR gl call kb r st with
  | some (st',e)=>(regsT gl call kb rs st').map fun (s,l)=>(s,e :: l)
  | none=>none
def X.tmp:X→Option Nat
 | .t n=>some n
 | _=>none
def R.uses (r:R):List Nat:=r.xs.filterMap X.tmp++(match r.gd with | some (t,_)=>[t] | none=>[])
def disj (a b:List Nat):Bool:=a.all fun x => !b.contains x
def Eff.apart:Eff→Eff→Bool
 | .pat r1 p1,.pat r2 p2=>
  disj (p1.map (·.k)) (r2++p2.map (·.k))&&disj (p2.map (·.k)) r1
 | .pat [] [],.whole _ | .whole _,.pat [] []=>true
 | .pat r [],.all p | .all p,.pat r []=>disj (p.map (·.k)) r
 | _,_=>false
def R.apart (x y:R):Bool:=
 (match x.d with
  | some d => !y.uses.contains d&&y.d != some d
  | none=>true) &&
 (match y.d with
  | some d => !x.uses.contains d
  | none=>true)
def apartFrom (i:Nat) (x:R) (e:Eff):List R→List Eff→Bool
 | r :: rs,f :: fs=>(r.bef.testBit i||(x.apart r&&e.apart f))&&apartFrom i x e rs fs
 | _,_=>true
def apartAll:Nat→List R→List Eff→Bool
 | i,r :: rs,e :: es=>apartFrom i r e rs es&&apartAll (i+1) rs es
 | _,_,_=>true
def clear:List Bool→List AV→List AV
 | true :: m,v :: r=>v :: clear m r
 | false :: m,_ :: r => .top :: clear m r
 | _,r=>r
def loopN (f:St→Option (Ex × St)) (clr:List Bool):Nat→St→Option (Ex × St)
 | 0,_=>none
 | n+1,st=>
  match f ⟨clear clr st.env,st.hp⟩ with
  | some (.nor,st')=>loopN f clr n st'
  | r=>r
def exec (gl:Nat→Option AV) (call:Caller) (kb n:Nat):C→St→Option (Ex × St)
 | .skip,st=>some (.nor,st)
 | .reg rs false,st=>(regs gl call kb rs st).map fun s=>(.nor,s)
 | .reg rs true,st=>
  match regsT gl call kb rs st with
  | some (s,es)=>if apartAll 0 rs es then some (.nor,s) else none
  | none=>none
 | .seq a b,st=>
  match exec gl call kb n a st with
  | some (.nor,st')=>exec gl call kb n b st'
  | r=>r
 | .cond c a b,st=>
  match c.ev gl st.env with
  | .bool true=>exec gl call kb n a st
  | .bool false=>exec gl call kb n b st
  | _=>none
 | .block id b,st=>
  match exec gl call kb n b st with
  | some (.ext i,st')=>if i=id then some (.nor,st') else some (.ext i,st')
  | r=>r
 | .loop b clr,st=>loopN (exec gl call kb n b) clr n st
 | .exit id,st=>some (.ext id,st)
 | .ret,st=>some (.ret,st)
 | .bad,_=>none
def resOf (st:St):Sum Nat (Nat × Nat × Bool)→Option AV
 | .inl t=>some (getT st.env t)
 | .inr (t,sz,ag)=>
  match getT st.env t with
  | .pt k e off=>match st.hp.get k with
   | some (e',.blk cs _ _ _ _)=>if e'=e then partA cs off sz ag else none
   | _=>none
  | _=>none
def resAll (st:St):List (Sum Nat (Nat × Nat × Bool))→Option (List AV)
 | []=>some []
 | x :: r=>
  match resOf st x,resAll st r with
  | some v,some l=>some (v :: l)
  | _,_=>none
def result (st:St) (rs:List (Sum Nat (Nat × Nat × Bool))):Option AV:=
 match resAll st rs with
 | some [v]=>some v
 | some l=>some (.tup l)
 | none=>none
def enter (cf:CF) (args:List AV):List AV:=args++List.replicate (cf.nt - args.length) (.tup [])
def callN (pg:Pg):Nat→Caller
 | 0=>fun _ _ _ _=>none
 | n+1=>fun f args kb h=>
  match pg.fs f with
  | none=>
   match pg.ex f with
   | some g=>g args kb h
   | none=>none
  | some cf=>
   match exec pg.gl (callN pg n) kb n cf.body ⟨enter cf args,h⟩ with
   | some (.ext _,_)=>none
   | some (_,st)=>(result st cf.res).map fun v=>(v,st.hp)
   | none=>none
end Go.Tev
end
section
namespace Go.Tev
open Go.RowKit
structure Loc where
 b:Nat
 base:Nat
 room:Nat
 tight:Bool
 esz:Nat
abbrev Rho:=Nat→Nat→Option Loc
inductive Rv (num:Nat→Nat) (ρ : Rho) (w:World) (F:Nat→Prop):AV→Value→Prop
 | top (c:Value):Rv num ρ w F .top c
 | bool (b:Bool):Rv num ρ w F (.bool b) (.bool b)
 | int (k:IntKind) (n:Int):Rv num ρ w F (.int k n) (.int k n)
 | str (s:List UInt8):Rv num ρ w F (.str s) (.string ⟨s.toArray⟩)
 | nilp:Rv num ρ w F .nilp (.pointer none)
 | nilm:Rv num ρ w F .nilm (.map none)
 | nilf:Rv num ρ w F .nilf .nilFunc
 | nili:Rv num ρ w F .nili .nilIface
 | agg (cs:List AV) (vs:Array Value) (hl:cs.length=vs.size) (h:∀ (i:Nat) (x:AV) (y:Value),cs[i]?=some x→vs[i]?=some y→Rv num ρ w F x y) :
   Rv num ρ w F (.agg cs) (.agg vs)
 | tup (cs:List AV) (vs:Array Value) (hl:cs.length=vs.size) (h:∀ (i:Nat) (x:AV) (y:Value),cs[i]?=some x→vs[i]?=some y→Rv num ρ w F x y) :
   Rv num ρ w F (.tup cs) (.tuple vs)
 | nsl (cl:Bool):Rv num ρ w F (.sl true [] cl) (.slice none 0 0)
 | sl (es:List AV) (cl:Bool) (b off cap sz:Nat) (c:Nat→Value) (hc:es.length≤cap) (hcl:cl=true→cap=es.length)
   (hF:es ≠ []→¬ F b∧b < w.heap.size)
   (hz:∀ (i:Nat) (e:AV),es[i]?=some e→e.cells.length=sz)
   (hm:∀ n,n < es.length*sz→w.cell? ⟨b,off+n,none⟩=some (c n))
   (hr:∀ (i:Nat) (e:AV) (j:Nat) (x:AV),es[i]?=some e→e.cells[j]?=some x→Rv num ρ w F x (c (i*sz+j)))
   (sp:Option Nat) (hsp:es ≠ []→sp=none) :
   Rv num ρ w F (.sl false es cl) (.slice (some ⟨b,off,sp⟩) es.length cap)
 | fp (v:AV) (b off:Nat) (c:Nat→Value) (hF:¬ F b) (hb:b < w.heap.size)
   (hm:∀ n,n < v.cells.length→w.cell? ⟨b,off+n,none⟩=some (c n))
   (hr:∀ (j:Nat) (x:AV),v.cells[j]?=some x→Rv num ρ w F x (c j)) :
   Rv num ρ w F (.fp v) (.pointer (some ⟨b,off,none⟩))
 | rf (k e off len cap cap':Nat) (L:Loc) (hL : ρ k e=some L) (hlen:len≤cap) (hcap:cap≤cap') (ht:L.tight=true→cap'=cap)
   (hroom:off+cap'*L.esz≤L.room) :
   Rv num ρ w F (.rf k e off len cap) (.slice (some ⟨L.b,L.base+off,none⟩) len cap')
 | pt (k e off:Nat) (L:Loc) (hL : ρ k e=some L):Rv num ρ w F (.pt k e off) (.pointer (some ⟨L.b,L.base+off,none⟩))
 | mp (k e:Nat) (L:Loc) (hL : ρ k e=some L):Rv num ρ w F (.mp k e) (.map (some L.b))
 | fn (f:Nat) (cs:List AV) (vs:Array Value) (hl:cs.length=vs.size) (h:∀ (i:Nat) (x:AV) (y:Value),cs[i]?=some x→vs[i]?=some y→Rv num ρ w F x y) :
   Rv num ρ w F (.fn f cs) (.func (.func (num f)) #[] vs)
 | ifc (v:AV) (t:TypeId) (c:Value) (h:Rv num ρ w F v c):Rv num ρ w F (.ifc v) (.iface t c)
structure Evo (ρ : Rho) (w:World) (O:Nat→Prop) (ρ':Rho) (w':World) (O':Nat→Prop):Prop where
 os:w'.os=w.os
 tape:w'.tape=w.tape
 output:w'.output=w.output
 size:w.heap.size≤w'.heap.size
 keep:∀ b,b < w.heap.size→¬ O b→w'.heap[b]?=w.heap[b]?
 own:∀ b,b < w.heap.size→O' b→O b
 rho:∀ k e L,ρ k e=some L → ρ' k e=some L
theorem Evo.refl (ρ : Rho) (w:World) (O:Nat→Prop):Evo ρ w O ρ w O:=
 ⟨rfl,rfl,rfl,Nat.le_refl _,fun _ _ _=>rfl,fun _ _ h=>h,fun _ _ _ h=>h⟩
theorem Evo.trans {ρ ρ' ρ'':Rho} {w w' w'':World} {O O' O'':Nat→Prop} (h:Evo ρ w O ρ' w' O') (k:Evo ρ' w' O' ρ'' w'' O''):Evo ρ w O ρ'' w'' O'' where
 os:=k.os.trans h.os
 tape:=k.tape.trans h.tape
 output:=k.output.trans h.output
 size:=Nat.le_trans h.size k.size
 keep:=fun b hb hO=>(k.keep b (Nat.lt_of_lt_of_le hb h.size) (fun h'=>hO (h.own b hb h'))).trans (h.keep b hb hO)
 own:=fun b hb hO=>h.own b hb (k.own b (Nat.lt_of_lt_of_le hb h.size) hO)
 rho:=fun k' e L hL=>k.rho k' e L (h.rho k' e L hL)
theorem cell_of_heap {w w':World} {b off:Nat} (h:w'.heap[b]?=w.heap[b]?):w'.cell? ⟨b,off,none⟩=w.cell? ⟨b,off,none⟩:=by
 simp only [World.cell?,h]
theorem Rv.evo {num:Nat→Nat} {ρ ρ':Rho} {w w':World} {Fb O O':Nat→Prop} {v:AV} {c:Value} (h:Rv num ρ w (fun b=>Fb b∨O b) v c) (he:Evo ρ w O ρ' w' O') :
  Rv num ρ' w' (fun b=>Fb b∨O' b) v c:=by
 induction h with
 | top c=>exact .top c
 | bool b=>exact .bool b
 | int k n=>exact .int k n
 | str s=>exact .str s
 | nilp=>exact .nilp
 | nilm=>exact .nilm
 | nilf=>exact .nilf
 | nili=>exact .nili
 | agg cs vs hl _ ih=>exact .agg cs vs hl ih
 | tup cs vs hl _ ih=>exact .tup cs vs hl ih
 | nsl cl=>exact .nsl cl
 | sl es cl b off cap sz c hc hcl hF hz hm _ sp hsp ih=>
  refine .sl es cl b off cap sz c hc hcl ?_ hz ?_ ih sp hsp
  ·intro hne
   obtain ⟨h1,h2⟩:=hF hne
   refine ⟨fun h=>h1 ?_,Nat.lt_of_lt_of_le h2 he.size⟩
   exact h.imp id (he.own b h2)
  ·intro n hn
   have hne:es ≠ []:=by intro h;subst h;simp at hn
   obtain ⟨h1,h2⟩:=hF hne
   rw [cell_of_heap (he.keep b h2 (fun h=>h1 (.inr h)))]
   exact hm n hn
 | fp v b off c hF hb hm _ ih=>
  refine .fp v b off c (fun h=>hF (h.imp id (he.own b hb))) (Nat.lt_of_lt_of_le hb he.size) ?_ ih
  intro n hn
  rw [cell_of_heap (he.keep b hb (fun h=>hF (.inr h)))]
  exact hm n hn
 | rf k e off len cap cap' L hL hlen hcap ht hroom=>exact .rf k e off len cap cap' L (he.rho k e L hL) hlen hcap ht hroom
 | pt k e off L hL=>exact .pt k e off L (he.rho k e L hL)
 | mp k e L hL=>exact .mp k e L (he.rho k e L hL)
 | fn f cs vs hl _ ih=>exact .fn f cs vs hl ih
 | ifc v t c _ ih=>exact .ifc v t c ih
theorem Rv.tree_mono {num:Nat→Nat} {ρ ρ':Rho} {w:World} {F F':Nat→Prop} {v:AV} {c:Value} (h:Rv num ρ w F v c) (ht:v.tree=true) (hF:∀ b,F' b→F b) :
  Rv num ρ' w F' v c:=by
 induction h with
 | top c=>exact .top c
 | bool b=>exact .bool b
 | int k n=>exact .int k n
 | str s=>exact .str s
 | nilp=>exact .nilp
 | nilm=>exact .nilm
 | nilf=>exact .nilf
 | nili=>exact .nili
 | agg cs vs hl _ ih=>exact .agg cs vs hl (fun i x y hx hy=>ih i x y hx hy (treeL_get (by simpa [AV.tree] using ht) i x hx))
 | tup cs vs hl _ ih=>exact .tup cs vs hl (fun i x y hx hy=>ih i x y hx hy (treeL_get (by simpa [AV.tree] using ht) i x hx))
 | nsl cl=>exact .nsl cl
 | sl es cl b off cap sz c hc hcl hF' hz hm _ sp hsp ih=>
  refine .sl es cl b off cap sz c hc hcl (fun hne=>⟨fun h=>(hF' hne).1 (hF b h),(hF' hne).2⟩) hz hm ?_ sp hsp
  intro i e j x he hx
  refine ih i e j x he hx ?_
  have h1:=treeL_get (by simpa [AV.tree] using ht) i e he
  exact cells_tree h1 j x hx
 | fp v b off c hF' hb hm _ ih=>
  refine .fp v b off c (fun h=>hF' (hF b h)) hb hm (fun j x hx=>ih j x hx ?_)
  exact cells_tree (by simpa [AV.tree] using ht) j x hx
 | rf=>simp [AV.tree] at ht
 | pt=>simp [AV.tree] at ht
 | mp=>simp [AV.tree] at ht
 | fn f cs vs hl _ ih=>exact .fn f cs vs hl (fun i x y hx hy=>ih i x y hx hy (treeL_get (by simpa [AV.tree] using ht) i x hx))
 | ifc v t c _ ih=>exact .ifc v t c (ih (by simpa [AV.tree] using ht))
where
 treeL_get:∀ {l:List AV},treeL l=true→∀ (i:Nat) (x:AV),l[i]?=some x→x.tree=true:=by
  intro l
  induction l with
  | nil=>intro _ i x h;simp at h
  | cons y r ih=>
   intro h i x hx
   simp only [treeL,Bool.and_eq_true] at h
   cases i with
   | zero=>simp at hx;exact hx ▸ h.1
   | succ i=>exact ih h.2 i x (by simpa using hx)
 cells_tree:∀ {v:AV},v.tree=true→∀ (i:Nat) (x:AV),v.cells[i]?=some x→x.tree=true:=by
  intro v hv i x hx
  cases v<;>simp only [AV.cells] at hx <;>
   first
    | exact treeL_get (by simpa [AV.tree] using hv) i x hx
    | (cases i with
       | zero=>simp at hx;exact hx ▸ hv
       | succ i=>simp at hx)
theorem Rv.flat_any {num:Nat→Nat} {ρ ρ':Rho} {w w':World} {F F':Nat→Prop} {v:AV} {c:Value} (h:Rv num ρ w F v c) (ht:v.flat=true) :
  Rv num ρ' w' F' v c:=by
 induction h with
 | top c=>exact .top c
 | bool b=>exact .bool b
 | int k n=>exact .int k n
 | str s=>exact .str s
 | nilp=>exact .nilp
 | nilm=>exact .nilm
 | nilf=>exact .nilf
 | nili=>exact .nili
 | agg cs vs hl _ ih=>exact .agg cs vs hl (fun i x y hx hy=>ih i x y hx hy (flatL_get (by simpa [AV.flat] using ht) i x hx))
 | tup cs vs hl _ ih=>exact .tup cs vs hl (fun i x y hx hy=>ih i x y hx hy (flatL_get (by simpa [AV.flat] using ht) i x hx))
 | nsl cl=>exact .nsl cl
 | sl es cl b off cap sz c hc hcl hF' hz hm _ sp hsp ih=>
  have:es=[]:=by simpa [AV.flat] using ht
  subst this
  exact .sl [] cl b off cap sz c hc hcl (fun h=>absurd rfl h) hz (by simp) (fun i e j x he=>by simp at he) sp hsp
 | fp=>simp [AV.flat] at ht
 | rf=>simp [AV.flat] at ht
 | pt=>simp [AV.flat] at ht
 | mp=>simp [AV.flat] at ht
 | fn f cs vs hl _ ih=>exact .fn f cs vs hl (fun i x y hx hy=>ih i x y hx hy (flatL_get (by simpa [AV.flat] using ht) i x hx))
 | ifc v t c _ ih=>exact .ifc v t c (ih (by simpa [AV.flat] using ht))
where
 flatL_get:∀ {l:List AV},flatL l=true→∀ (i:Nat) (x:AV),l[i]?=some x→x.flat=true:=by
  intro l
  induction l with
  | nil=>intro _ i x h;simp at h
  | cons y r ih=>
   intro h i x hx
   simp only [flatL,Bool.and_eq_true] at h
   cases i with
   | zero=>simp at hx;exact hx ▸ h.1
   | succ i=>exact ih h.2 i x (by simpa using hx)
theorem Rv.F_mono {num:Nat→Nat} {ρ : Rho} {w:World} {F F':Nat→Prop} {v:AV} {c:Value} (h:Rv num ρ w F v c) (hF:∀ b,F' b→F b):Rv num ρ w F' v c:=by
 induction h with
 | top c=>exact .top c
 | bool b=>exact .bool b
 | int k n=>exact .int k n
 | str s=>exact .str s
 | nilp=>exact .nilp
 | nilm=>exact .nilm
 | nilf=>exact .nilf
 | nili=>exact .nili
 | agg cs vs hl _ ih=>exact .agg cs vs hl ih
 | tup cs vs hl _ ih=>exact .tup cs vs hl ih
 | nsl cl=>exact .nsl cl
 | sl es cl b off cap sz c hc hcl hF' hz hm _ sp hsp ih=>exact .sl es cl b off cap sz c hc hcl (fun hne=>⟨fun h=>(hF' hne).1 (hF b h),(hF' hne).2⟩) hz hm ih sp hsp
 | fp v b off c hF' hb hm _ ih=>exact .fp v b off c (fun h=>hF' (hF b h)) hb hm ih
 | rf k e off len cap cap' L hL hlen hcap ht hroom=>exact .rf k e off len cap cap' L hL hlen hcap ht hroom
 | pt k e off L hL=>exact .pt k e off L hL
 | mp k e L hL=>exact .mp k e L hL
 | fn f cs vs hl _ ih=>exact .fn f cs vs hl ih
 | ifc v t c _ ih=>exact .ifc v t c ih
section
variable {num:Nat→Nat} {ρ : Rho} {w:World} {F:Nat→Prop}
theorem Rv.of_int {k:IntKind} {n:Int} {c:Value} (hh:Rv num ρ w F (.int k n) c):c = .int k n:=by cases hh;rfl
theorem Rv.of_bool {b:Bool} {c:Value} (hh:Rv num ρ w F (.bool b) c):c = .bool b:=by cases hh;rfl
theorem Rv.of_str {s:List UInt8} {c:Value} (hh:Rv num ρ w F (.str s) c):c = .string ⟨s.toArray⟩:=by cases hh;rfl
theorem Rv.of_nilp {c:Value} (hh:Rv num ρ w F .nilp c):c = .pointer none:=by cases hh;rfl
theorem Rv.of_nilm {c:Value} (hh:Rv num ρ w F .nilm c):c = .map none:=by cases hh;rfl
theorem Rv.of_nilf {c:Value} (hh:Rv num ρ w F .nilf c):c = .nilFunc:=by cases hh;rfl
theorem Rv.of_nili {c:Value} (hh:Rv num ρ w F .nili c):c = .nilIface:=by cases hh;rfl
theorem Rv.of_agg {cs:List AV} {c:Value} (hh:Rv num ρ w F (.agg cs) c) :
  ∃ vs:Array Value,c = .agg vs∧cs.length=vs.size∧∀ (i:Nat) (x:AV) (y:Value),cs[i]?=some x→vs[i]?=some y→Rv num ρ w F x y:=by
 cases hh with | agg _ vs hl h=>exact ⟨vs,rfl,hl,h⟩
theorem Rv.of_tup {cs:List AV} {c:Value} (hh:Rv num ρ w F (.tup cs) c) :
  ∃ vs:Array Value,c = .tuple vs∧cs.length=vs.size∧∀ (i:Nat) (x:AV) (y:Value),cs[i]?=some x→vs[i]?=some y→Rv num ρ w F x y:=by
 cases hh with | tup _ vs hl h=>exact ⟨vs,rfl,hl,h⟩
theorem Rv.of_fn {f:Nat} {cs:List AV} {c:Value} (hh:Rv num ρ w F (.fn f cs) c) :
  ∃ vs:Array Value,c = .func (.func (num f)) #[] vs∧cs.length=vs.size∧∀ (i:Nat) (x:AV) (y:Value),cs[i]?=some x→vs[i]?=some y→Rv num ρ w F x y:=by
 cases hh with | fn _ _ vs hl h=>exact ⟨vs,rfl,hl,h⟩
theorem Rv.of_nsl {es:List AV} {cl:Bool} {c:Value} (hh:Rv num ρ w F (.sl true es cl) c):es=[]∧c = .slice none 0 0:=by cases hh;exact ⟨rfl,rfl⟩
theorem Rv.of_sl {es:List AV} {cl:Bool} {c:Value} (hh:Rv num ρ w F (.sl false es cl) c) :
  ∃ (b off cap sz:Nat) (m:Nat→Value) (sp:Option Nat),c = .slice (some ⟨b,off,sp⟩) es.length cap∧(es ≠ []→sp=none)∧es.length≤cap∧(cl=true→cap=es.length) ∧
   (es ≠ []→¬ F b∧b < w.heap.size)∧(∀ (i:Nat) (e:AV),es[i]?=some e→e.cells.length=sz) ∧
   (∀ n,n < es.length*sz→w.cell? ⟨b,off+n,none⟩=some (m n)) ∧
   (∀ (i:Nat) (e:AV) (j:Nat) (x:AV),es[i]?=some e→e.cells[j]?=some x→Rv num ρ w F x (m (i*sz+j))):=by
 cases hh with | sl _ _ b off cap sz m hc hcl hF hz hm hr sp hsp=>exact ⟨b,off,cap,sz,m,sp,rfl,hsp,hc,hcl,hF,hz,hm,hr⟩
theorem Rv.of_fp {v:AV} {c:Value} (hh:Rv num ρ w F (.fp v) c) :
  ∃ (b off:Nat) (m:Nat→Value),c = .pointer (some ⟨b,off,none⟩)∧¬ F b∧b < w.heap.size ∧
   (∀ n,n < v.cells.length→w.cell? ⟨b,off+n,none⟩=some (m n))∧(∀ (j:Nat) (x:AV),v.cells[j]?=some x→Rv num ρ w F x (m j)):=by
 cases hh with | fp _ b off m hF hb hm hr=>exact ⟨b,off,m,rfl,hF,hb,hm,hr⟩
theorem Rv.of_rf {k e off len cap:Nat} {c:Value} (hh:Rv num ρ w F (.rf k e off len cap) c) :
  ∃ (cap':Nat) (L:Loc),c = .slice (some ⟨L.b,L.base+off,none⟩) len cap' ∧ ρ k e=some L∧len≤cap∧cap≤cap'∧(L.tight=true→cap'=cap)∧off+cap'*L.esz≤L.room:=by
 cases hh with | rf _ _ _ _ _ cap' L hL hlen hcap ht hroom=>exact ⟨cap',L,rfl,hL,hlen,hcap,ht,hroom⟩
theorem Rv.of_pt {k e off:Nat} {c:Value} (hh:Rv num ρ w F (.pt k e off) c):∃ L,c = .pointer (some ⟨L.b,L.base+off,none⟩) ∧ ρ k e=some L:=by
 cases hh with | pt _ _ _ L hL=>exact ⟨L,rfl,hL⟩
theorem Rv.of_mp {k e:Nat} {c:Value} (hh:Rv num ρ w F (.mp k e) c):∃ L,c = .map (some L.b) ∧ ρ k e=some L:=by
 cases hh with | mp _ _ L hL=>exact ⟨L,rfl,hL⟩
theorem Rv.of_ifc {v:AV} {c:Value} (hh:Rv num ρ w F (.ifc v) c):∃ t c',c = .iface t c'∧Rv num ρ w F v c':=by
 cases hh with | ifc _ t c' h=>exact ⟨t,c',rfl,h⟩
end
def Ob.live:Ob→Bool
 | .blk _ _ _ _ false | .mpo _=>true
 | _=>false
structure HpR (num:Nat→Nat) (Fb:Nat→Prop) (B0:Nat) (ρ : Rho) (w:World) (O:Nat→Prop) (h:Hp):Prop where
 blk:∀ k e cs esz ag ti fz,h.get k=some (e,.blk cs esz ag ti fz)→∃ (L:Loc) (c:Array Value) (T:TypeId),ρ k e=some L∧L.tight=ti∧L.esz=esz ∧
  w.heap[L.b]?=some (.cells c T (0,0))∧L.base+L.room≤c.size∧cs.length≤L.room ∧
  (∀ (i:Nat) (x:AV),cs[i]?=some x→∃ y,c[L.base+i]?=some y∧Rv num ρ w (fun b=>Fb b∨O b) x y)∧B0≤L.b∧(fz=false→O L.b)∧(fz=true→¬ O L.b)
 mpo:∀ k e es,h.get k=some (e,.mpo es)→∃ (L:Loc) (c:Array MapEntry) (clock:Nat),ρ k e=some L∧w.heap[L.b]?=some (.map c clock)∧es.length=c.size ∧
  (∀ (i:Nat) (x:AV × AV) (y:MapEntry),es[i]?=some x→c[i]?=some y→Rv num ρ w (fun b=>Fb b∨O b) x.1 y.key∧Rv num ρ w (fun b=>Fb b∨O b) x.2 y.val∧x.1.key=true∧x.2.fits x.2.cells.length x.2.isAgg=true) ∧
  B0≤L.b∧O L.b
 inj:∀ k k' e e' o o' L L',h.get k=some (e,o)→h.get k'=some (e',o')→o.live=true→o'.live=true → ρ k e=some L → ρ k' e'=some L'→L.b=L'.b→k=k'
 ep:∀ k e L,ρ k e=some L→∃ e' o,h.get k=some (e',o)∧e≤e'
 own:∀ b,O b→B0≤b∧b < w.heap.size
 fbl:∀ b,Fb b→b < B0
 le:B0≤w.heap.size
theorem get_put (h:Hp) (k e:Nat) (o:Ob) (k':Nat):(h.put k e o).get k'=if k=k' then some (e,o) else h.get k':=by
 induction h with
 | nil=>simp [Hp.put,Hp.get]
 | cons x r ih=>
  simp only [Hp.put]
  by_cases h1:k < x.k
  ·simp [h1,Hp.get]
  ·by_cases h2:x.k=k
   ·simp only [h1,if_false,h2,if_true]
    by_cases h3:k=k'
    ·simp [Hp.get,h3]
    ·simp [Hp.get,h3,h2]
   ·simp only [h1,h2,if_false,Hp.get,ih]
    by_cases h3:k=k'
    ·subst h3;simp [h2]
    ·simp [h3]
theorem put_comm (h:Hp) (k k' e e':Nat) (o o':Ob) (hne:k ≠ k'):(h.put k e o).put k' e' o'=(h.put k' e' o').put k e o:=by
 induction h with
 | nil=>
  simp only [Hp.put]
  rcases Nat.lt_or_gt_of_ne hne with h1 | h1
  ·simp [Nat.not_lt_of_gt h1,h1,hne]
  ·simp [Nat.not_lt_of_gt h1,h1,Ne.symm hne]
 | cons x r ih=>
  rcases Nat.lt_or_gt_of_ne hne with hlt | hlt <;>
  rcases Nat.lt_trichotomy k x.k with a | a | a<;>rcases Nat.lt_trichotomy k' x.k with b | b | b<;>(try omega)
  all_goals
   have q1:¬ k=k':=hne
   have q2:¬ k'=k:=fun e=>hne e.symm
   simp only [Hp.put]
  ·rw [if_pos a,if_pos b];simp only [Hp.put];rw [if_neg (by omega),if_neg q1,if_pos b,if_pos hlt]
  ·rw [if_pos a,if_neg (by omega),if_pos b.symm];simp only [Hp.put];rw [if_neg (by omega),if_neg q1,if_neg (by omega),if_pos b.symm,if_pos hlt]
  ·rw [if_pos a,if_neg (by omega),if_neg (by omega)];simp only [Hp.put];rw [if_neg (by omega),if_neg q1,if_neg (by omega),if_neg (by omega),if_pos a]
  ·rw [if_neg (by omega),if_pos a.symm,if_neg (by omega),if_neg (by omega)];simp only [Hp.put];rw [if_neg (by omega),if_neg q1,if_neg (by omega),if_pos a.symm]
  ·rw [if_neg (by omega),if_neg (by omega),if_neg (by omega),if_neg (by omega)];simp only [Hp.put];rw [if_neg (by omega),if_neg (by omega),if_neg (by omega),if_neg (by omega),ih]
  ·rw [if_pos a,if_pos b];simp only [Hp.put];rw [if_pos hlt,if_neg (by omega),if_neg q2,if_pos a]
  ·rw [if_neg (by omega),if_pos a.symm,if_pos b];simp only [Hp.put];rw [if_pos hlt,if_neg (by omega),if_neg q2,if_neg (by omega),if_pos a.symm]
  ·rw [if_neg (by omega),if_neg (by omega),if_pos b];simp only [Hp.put];rw [if_pos b,if_neg (by omega),if_neg q2,if_neg (by omega),if_neg (by omega)]
  ·rw [if_neg (by omega),if_neg (by omega),if_neg (by omega),if_pos b.symm];simp only [Hp.put];rw [if_neg (by omega),if_pos b.symm,if_neg (by omega),if_neg q2]
  ·rw [if_neg (by omega),if_neg (by omega),if_neg (by omega),if_neg (by omega)];simp only [Hp.put];rw [if_neg (by omega),if_neg (by omega),if_neg (by omega),if_neg (by omega),ih]
end Go.Tev
end
section
namespace Go.Tev
open Go.RowKit
section
variable {num:Nat→Nat} {Fb:Nat→Prop} {B0:Nat} {ρ ρ':Rho} {w w':World} {O O':Nat→Prop} {h:Hp}
def NewOk (num:Nat→Nat) (Fb:Nat→Prop) (B0:Nat) (ρ : Rho) (w:World) (O:Nat→Prop) (k e:Nat):Ob→Prop
 | .blk cs esz _ ti fz=>∃ (L:Loc) (c:Array Value) (T:TypeId),ρ k e=some L∧L.tight=ti∧L.esz=esz ∧
  w.heap[L.b]?=some (.cells c T (0,0))∧L.base+L.room≤c.size∧cs.length≤L.room ∧
  (∀ (i:Nat) (x:AV),cs[i]?=some x→∃ y,c[L.base+i]?=some y∧Rv num ρ w (fun b=>Fb b∨O b) x y)∧B0≤L.b∧(fz=false→O L.b)∧(fz=true→¬ O L.b)
 | .mpo es=>∃ (L:Loc) (c:Array MapEntry) (clock:Nat),ρ k e=some L∧w.heap[L.b]?=some (.map c clock)∧es.length=c.size ∧
  (∀ (i:Nat) (x:AV × AV) (y:MapEntry),es[i]?=some x→c[i]?=some y→Rv num ρ w (fun b=>Fb b∨O b) x.1 y.key∧Rv num ρ w (fun b=>Fb b∨O b) x.2 y.val∧x.1.key=true∧x.2.fits x.2.cells.length x.2.isAgg=true) ∧
  B0≤L.b∧O L.b
 | .dead=>True
theorem HpR.put {k e:Nat} {o:Ob} (H:HpR num Fb B0 ρ w O h) (ev:Evo ρ w O ρ' w' O')
  (hρ : ∀ k' e' L,ρ' k' e'=some L → ρ k' e'=some L∨(k'=k∧e'=e))
  (he:∀ e0 o0,h.get k=some (e0,o0)→e0≤e)
  (hown:∀ b,O' b→B0≤b∧b < w'.heap.size)
  (hoth:∀ k' e' o' L,k' ≠ k→h.get k'=some (e',o')→o' ≠ .dead → ρ k' e'=some L→w'.heap[L.b]?=w.heap[L.b]?∧(O L.b→O' L.b))
  (hnew:NewOk num Fb B0 ρ' w' O' k e o)
  (hinj:o.live=true→∀ k' e' o' L L',k' ≠ k→h.get k'=some (e',o')→o'.live=true → ρ k' e'=some L' → ρ' k e=some L→L.b ≠ L'.b) :
  HpR num Fb B0 ρ' w' O' (h.put k e o) where
 blk:=by
  intro k' e' cs esz ag ti fz hg
  rw [get_put] at hg
  by_cases hk:k=k'
  ·subst hk
   simp only [if_true,Option.some.injEq,Prod.mk.injEq] at hg
   obtain ⟨rfl,rfl⟩:=hg
   exact hnew
  ·simp only [hk,if_false] at hg
   obtain ⟨L,c,T,h1,h2,h3,h4,h5,h6,h7,h8,h9,h10⟩:=H.blk _ _ _ _ _ _ _ hg
   obtain ⟨a1,a2⟩:=hoth k' e' _ L (fun e=>hk e.symm) hg (by simp) h1
   refine ⟨L,c,T,ev.rho _ _ _ h1,h2,h3,a1.trans h4,h5,h6,?_,h8,fun hz=>a2 (h9 hz),fun hz hO=>h10 hz (ev.own _ ?_ hO)⟩
   ·intro i x hx
    obtain ⟨y,hy,hr⟩:=h7 i x hx
    exact ⟨y,hy,hr.evo ev⟩
   ·by_cases hlt:L.b < w.heap.size
    ·exact hlt
    ·simp [Array.getElem?_eq_none (Nat.le_of_not_lt hlt)] at h4
 mpo:=by
  intro k' e' es hg
  rw [get_put] at hg
  by_cases hk:k=k'
  ·subst hk
   simp only [if_true,Option.some.injEq,Prod.mk.injEq] at hg
   obtain ⟨rfl,rfl⟩:=hg
   exact hnew
  ·simp only [hk,if_false] at hg
   obtain ⟨L,c,T,h1,h2,h3,h4,h5,h6⟩:=H.mpo _ _ _ hg
   obtain ⟨a1,a2⟩:=hoth k' e' _ L (fun e=>hk e.symm) hg (by simp) h1
   refine ⟨L,c,T,ev.rho _ _ _ h1,a1.trans h2,h3,?_,h5,a2 h6⟩
   intro i x y hx hy
   obtain ⟨b1,b2,b3⟩:=h4 i x y hx hy
   exact ⟨b1.evo ev,b2.evo ev,b3⟩
 inj:=by
  intro k1 k2 e1 e2 o1 o2 L1 L2 g1 g2 l1 l2 r1 r2 hb
  rw [get_put] at g1 g2
  by_cases hk1:k=k1
  ·by_cases hk2:k=k2
   ·exact hk1.symm.trans hk2
   ·simp only [hk1,if_true,Option.some.injEq,Prod.mk.injEq] at g1
    simp only [hk2,if_false] at g2
    obtain ⟨rfl,rfl⟩:=g1
    have r2':=(hρ _ _ _ r2).resolve_right (fun a=>hk2 a.1.symm)
    exact absurd hb (hinj l1 k2 e2 o2 L1 L2 (fun a=>hk2 a.symm) g2 l2 r2' (by rw [hk1];exact r1))
  ·simp only [hk1,if_false] at g1
   have r1':=(hρ _ _ _ r1).resolve_right (fun a=>hk1 a.1.symm)
   by_cases hk2:k=k2
   ·simp only [hk2,if_true,Option.some.injEq,Prod.mk.injEq] at g2
    obtain ⟨rfl,rfl⟩:=g2
    exact absurd hb.symm (hinj l2 k1 e1 o1 L2 L1 (fun a=>hk1 a.symm) g1 l1 r1' (by rw [hk2];exact r2))
   ·simp only [hk2,if_false] at g2
    exact H.inj k1 k2 e1 e2 o1 o2 L1 L2 g1 g2 l1 l2 r1' ((hρ _ _ _ r2).resolve_right (fun a=>hk2 a.1.symm)) hb
 ep:=by
  intro k' e' L hL
  rw [get_put]
  rcases hρ _ _ _ hL with h1 | ⟨rfl,rfl⟩
  ·obtain ⟨e'',o'',g,hle⟩:=H.ep _ _ _ h1
   by_cases hk:k=k'
   ·subst hk
    exact ⟨e,o,by simp,Nat.le_trans hle (he _ _ g)⟩
   ·exact ⟨e'',o'',by simp [hk,g],hle⟩
  ·exact ⟨e',o,by simp,Nat.le_refl _⟩
 own:=hown
 fbl:=H.fbl
 le:=Nat.le_trans H.le ev.size
theorem HpR.same (H:HpR num Fb B0 ρ w O h) (ev:Evo ρ w O ρ w' O) (hh:∀ b,O b→w'.heap[b]?=w.heap[b]?):HpR num Fb B0 ρ w' O h where
 blk:=by
  intro k' e' cs esz ag ti fz hg
  obtain ⟨L,c,T,h1,h2,h3,h4,h5,h6,h7,h8,h9,h10⟩:=H.blk _ _ _ _ _ _ _ hg
  have hb:L.b < w.heap.size:=by
   by_cases hlt:L.b < w.heap.size
   ·exact hlt
   ·simp [Array.getElem?_eq_none (Nat.le_of_not_lt hlt)] at h4
  refine ⟨L,c,T,h1,h2,h3,?_,h5,h6,?_,h8,h9,h10⟩
  ·by_cases hO:O L.b
   ·exact (hh _ hO).trans h4
   ·exact (ev.keep _ hb hO).trans h4
  ·intro i x hx
   obtain ⟨y,hy,hr⟩:=h7 i x hx
   exact ⟨y,hy,hr.evo ev⟩
 mpo:=by
  intro k' e' es hg
  obtain ⟨L,c,T,h1,h2,h3,h4,h5,h6⟩:=H.mpo _ _ _ hg
  refine ⟨L,c,T,h1,(hh _ h6).trans h2,h3,?_,h5,h6⟩
  intro i x y hx hy
  obtain ⟨b1,b2,b3⟩:=h4 i x y hx hy
  exact ⟨b1.evo ev,b2.evo ev,b3⟩
 inj:=H.inj
 ep:=H.ep
 own:=fun b hO=>⟨(H.own b hO).1,Nat.lt_of_lt_of_le (H.own b hO).2 ev.size⟩
 fbl:=H.fbl
 le:=Nat.le_trans H.le ev.size
def Rho.set (ρ : Rho) (k e:Nat) (L:Loc):Rho:=fun k' e'=>if k'=k∧e'=e then some L else ρ k' e'
theorem Rho.set_same (ρ : Rho) (k e:Nat) (L:Loc) : ρ.set k e L k e=some L:=by simp [Rho.set]
theorem next_fresh (H:HpR num Fb B0 ρ w O h) (k:Nat) : ρ k (h.next k)=none:=by
 cases hr : ρ k (h.next k) with
 | none=>rfl
 | some L=>
  obtain ⟨e',o,g,hle⟩:=H.ep _ _ _ hr
  simp [Hp.next,g] at hle
  omega
theorem next_le (h:Hp) (k:Nat):∀ e0 o0,h.get k=some (e0,o0)→e0≤h.next k:=by
 intro e0 o0 g;simp [Hp.next,g]
theorem Rho.set_keeps {k e:Nat} {L:Loc} (hf : ρ k e=none):∀ k' e' L',ρ k' e'=some L' → ρ.set k e L k' e'=some L':=by
 intro k' e' L' hL
 unfold Rho.set
 split
 ·rename_i hc;obtain ⟨rfl,rfl⟩:=hc;simp [hf] at hL
 ·exact hL
structure Pushed (w w':World) (o:Obj):Prop where
 os:w'.os=w.os
 tape:w'.tape=w.tape
 output:w'.output=w.output
 heap:w'.heap=w.heap.push o
theorem Pushed.old {o:Obj} (hp:Pushed w w' o) {b:Nat} (hb:b < w.heap.size):w'.heap[b]?=w.heap[b]?:=by
 rw [hp.heap,Array.getElem?_push,if_neg (by omega)]
theorem Pushed.new {o:Obj} (hp:Pushed w w' o):w'.heap[w.heap.size]?=some o:=by
 rw [hp.heap];simp
theorem Pushed.size {o:Obj} (hp:Pushed w w' o):w'.heap.size=w.heap.size+1:=by
 rw [hp.heap];simp
theorem HpR.loc_lt {k e:Nat} {o:Ob} {L:Loc} (H:HpR num Fb B0 ρ w O h) (hg:h.get k=some (e,o)) (hd:o ≠ .dead) (hL : ρ k e=some L):L.b < w.heap.size:=by
 have key:∀ x:Obj,w.heap[L.b]?=some x→L.b < w.heap.size:=by
  intro x hx
  by_cases hlt:L.b < w.heap.size
  ·exact hlt
  ·simp [Array.getElem?_eq_none (Nat.le_of_not_lt hlt)] at hx
 cases o with
 | dead=>exact absurd rfl hd
 | blk=>
  obtain ⟨L',c',T',h1,_,_,h4,_⟩:=H.blk _ _ _ _ _ _ _ hg
  obtain rfl:L'=L:=by rw [h1] at hL;exact Option.some.inj hL
  exact key _ h4
 | mpo=>
  obtain ⟨L',c',T',h1,h4,_⟩:=H.mpo _ _ _ hg
  obtain rfl:L'=L:=by rw [h1] at hL;exact Option.some.inj hL
  exact key _ h4
theorem HpR.new {k:Nat} {cs:List AV} {esz:Nat} {ag ti:Bool} {c:Array Value} {T:TypeId} (room:Nat) (H:HpR num Fb B0 ρ w O h) (hp:Pushed w w' (.cells c T (0,0)))
  (hroom:room≤c.size) (hlen:cs.length≤room) (hc:∀ (i:Nat) (x:AV),cs[i]?=some x→∃ y,c[i]?=some y∧Rv num ρ w (fun b=>Fb b∨O b) x y) :
  Evo ρ w O (ρ.set k (h.next k) ⟨w.heap.size,0,room,ti,esz⟩) w' (fun b=>O b∨b=w.heap.size) ∧
  HpR num Fb B0 (ρ.set k (h.next k) ⟨w.heap.size,0,room,ti,esz⟩) w' (fun b=>O b∨b=w.heap.size) (h.put k (h.next k) (.blk cs esz ag ti false)):=by
 have hf:=next_fresh H k
 have ev:Evo ρ w O (ρ.set k (h.next k) ⟨w.heap.size,0,room,ti,esz⟩) w' (fun b=>O b∨b=w.heap.size):=
  {os:=hp.os,tape:=hp.tape,output:=hp.output,size:=by rw [hp.size];omega,
   keep:=fun b hb _=>hp.old hb,own:=fun b hb hO=>hO.elim id (fun e=>by omega),rho:=Rho.set_keeps hf}
 refine ⟨ev,H.put ev ?_ (next_le h k) ?_ ?_ ?_ ?_⟩
 ·intro k' e' L hL
  unfold Rho.set at hL
  split at hL
  ·rename_i hc;exact .inr hc
  ·exact .inl hL
 ·intro b hO
  rw [hp.size]
  rcases hO with hO | rfl
  ·exact ⟨(H.own b hO).1,Nat.lt_of_lt_of_le (H.own b hO).2 (by omega)⟩
  ·exact ⟨H.le,by omega⟩
 ·intro k' e' o' L hk hg hd hL
  exact ⟨hp.old (H.loc_lt hg hd hL),.inl⟩
 ·refine ⟨_,c,T,Rho.set_same _ _ _ _,rfl,rfl,hp.new,by simpa using hroom,hlen,?_,H.le,fun _ => .inr rfl,fun h=>by cases h⟩
  intro i x hx
  obtain ⟨y,hy,hr⟩:=hc i x hx
  exact ⟨y,by simpa using hy,hr.evo ev⟩
 ·intro _ k' e' o' L L' hk hg hl hL' hL hb
  rw [Rho.set_same] at hL;cases hL
  have:=H.loc_lt hg (by intro e;subst e;cases hl) hL'
  simp at hb
  omega
structure Turned (w w':World) (b:Nat) (o:Obj):Prop where
 os:w'.os=w.os
 tape:w'.tape=w.tape
 output:w'.output=w.output
 size:w'.heap.size=w.heap.size
 here:w'.heap[b]?=some o
 other:∀ k,k ≠ b→w'.heap[k]?=w.heap[k]?
theorem Turned.evo {o:Obj} {b:Nat} (ht:Turned w w' b o) (hO:O b):Evo ρ w O ρ w' O where
 os:=ht.os
 tape:=ht.tape
 output:=ht.output
 size:=by rw [ht.size];exact Nat.le_refl _
 keep:=fun k _ hk=>ht.other k (fun e=>hk (e ▸ hO))
 own:=fun _ _ h=>h
 rho:=fun _ _ _ h=>h
theorem live_ne (H:HpR num Fb B0 ρ w O h) {k k' e e':Nat} {o o':Ob} {L L':Loc} (hg:h.get k=some (e,o)) (hl:o.live=true) (hL : ρ k e=some L)
  (hk:k' ≠ k) (hg':h.get k'=some (e',o')) (hd:o' ≠ .dead) (hL' : ρ k' e'=some L'):L'.b ≠ L.b:=by
 intro hb
 by_cases hl':o'.live=true
 ·exact hk (H.inj _ _ _ _ _ _ _ _ hg' hg hl' hl hL' hL hb)
 ·cases o' with
  | dead=>exact hd rfl
  | mpo=>simp [Ob.live] at hl'
  | blk cs esz ag ti fz=>
   cases fz with
   | false=>simp [Ob.live] at hl'
   | true=>
    obtain ⟨L1,c1,T1,h1,_,_,_,_,_,_,_,_,h10⟩:=H.blk _ _ _ _ _ _ _ hg'
    rw [h1] at hL';cases hL'
    have:O L.b:=by
     cases o with
     | dead=>simp [Ob.live] at hl
     | mpo=>
      obtain ⟨L2,c2,T2,r1,_,_,_,_,r6⟩:=H.mpo _ _ _ hg
      rw [r1] at hL;cases hL;exact r6
     | blk cs' esz' ag' ti' fz'=>
      cases fz' with
      | true=>simp [Ob.live] at hl
      | false=>
       obtain ⟨L2,c2,T2,r1,_,_,_,_,_,_,_,r9,_⟩:=H.blk _ _ _ _ _ _ _ hg
       rw [r1] at hL;cases hL;exact r9 rfl
    exact h10 rfl (hb ▸ this)
theorem HpR.write {k e:Nat} {cs cs':List AV} {esz:Nat} {ag ti:Bool} {L:Loc} {c':Array Value} {T:TypeId} (H:HpR num Fb B0 ρ w O h)
  (hg:h.get k=some (e,.blk cs esz ag ti false)) (hL : ρ k e=some L) (ht:Turned w w' L.b (.cells c' T (0,0)))
  (hsz:L.base+L.room≤c'.size) (hlen:cs'.length≤L.room)
  (hc:∀ (i:Nat) (x:AV),cs'[i]?=some x→∃ y,c'[L.base+i]?=some y∧Rv num ρ w (fun b=>Fb b∨O b) x y) :
  Evo ρ w O ρ w' O∧HpR num Fb B0 ρ w' O (h.put k e (.blk cs' esz ag ti false)):=by
 obtain ⟨L0,c,T0,h1,h2,h3,h4,h5,h6,h7,h8,h9,h10⟩:=H.blk _ _ _ _ _ _ _ hg
 rw [h1] at hL;cases hL
 have ev:Evo ρ w O ρ w' O:=ht.evo (h9 rfl)
 refine ⟨ev,H.put ev (fun _ _ _ h => .inl h) (fun e0 o0 g=>by rw [hg] at g;cases g;exact Nat.le_refl _) ?_ ?_ ?_ ?_⟩
 ·intro b hO;rw [ht.size];exact H.own b hO
 ·intro k' e' o' L' hk hg' hd hL'
  exact ⟨ht.other _ (live_ne H hg rfl h1 hk hg' hd hL'),id⟩
 ·refine ⟨L,c',T,h1,h2,h3,ht.here,hsz,hlen,?_,h8,h9,h10⟩
  intro i x hx
  obtain ⟨y,hy,hr⟩:=hc i x hx
  exact ⟨y,hy,hr.evo ev⟩
 ·intro _ k' e' o' L1 L2 hk hg' hl hL' hL1 hb
  rw [h1] at hL1;cases hL1
  exact live_ne H hg rfl h1 hk hg' (by intro e;subst e;cases hl) hL' hb.symm
theorem HpR.kill {k e:Nat} {o:Ob} (H:HpR num Fb B0 ρ w O h) (hg:h.get k=some (e,o)):HpR num Fb B0 ρ w O (h.put k e .dead):=
 H.put (Evo.refl ρ w O) (fun _ _ _ h => .inl h) (fun e0 o0 g=>by rw [hg] at g;cases g;exact Nat.le_refl _) H.own (fun _ _ _ _ _ _ _ _=>⟨rfl,id⟩) trivial (fun h=>by cases h)
theorem HpR.freeze {k e:Nat} {cs:List AV} {esz:Nat} {ag ti:Bool} {L:Loc} (H:HpR num Fb B0 ρ w O h)
  (hg:h.get k=some (e,.blk cs esz ag ti false)) (hL : ρ k e=some L) :
  Evo ρ w O ρ w (fun b=>O b∧b ≠ L.b)∧HpR num Fb B0 ρ w (fun b=>O b∧b ≠ L.b) (h.put k e (.blk cs esz ag ti true)):=by
 obtain ⟨L0,c,T0,h1,h2,h3,h4,h5,h6,h7,h8,h9,h10⟩:=H.blk _ _ _ _ _ _ _ hg
 rw [h1] at hL;cases hL
 have ev:Evo ρ w O ρ w (fun b=>O b∧b ≠ L.b):=⟨rfl,rfl,rfl,Nat.le_refl _,fun _ _ _=>rfl,fun _ _ h=>h.1,fun _ _ _ h=>h⟩
 refine ⟨ev,H.put ev (fun _ _ _ h => .inl h) (fun e0 o0 g=>by rw [hg] at g;cases g;exact Nat.le_refl _) (fun b hO=>H.own b hO.1) ?_ ?_ (fun h=>by cases h)⟩
 ·intro k' e' o' L' hk hg' hd hL'
  exact ⟨rfl,fun hO=>⟨hO,live_ne H hg rfl h1 hk hg' hd hL'⟩⟩
 ·refine ⟨L,c,T0,h1,h2,h3,h4,h5,h6,?_,h8,(fun h=>by cases h),fun _ h=>h.2 rfl⟩
  intro i x hx
  obtain ⟨y,hy,hr⟩:=h7 i x hx
  exact ⟨y,hy,hr.evo ev⟩
theorem HpR.move {k k0 e off:Nat} {cs cs':List AV} {esz:Nat} {ag ag' ti:Bool} {L:Loc} {c':Array Value} {T:TypeId} (H:HpR num Fb B0 ρ w O h)
  (hg:h.get k=some (e,.blk cs esz ag ti false)) (hL : ρ k e=some L) (ht:Turned w w' L.b (.cells c' T (0,0)))
  (hsz:L.base+L.room≤c'.size) (hoff:off≤L.room) (hlen:cs'.length≤L.room - off)
  (hc:∀ (i:Nat) (x:AV),cs'[i]?=some x→∃ y,c'[L.base+off+i]?=some y∧Rv num ρ w (fun b=>Fb b∨O b) x y) (h':Hp)
  (hh:h'=if k=k0 then h else h.put k e .dead) (e0:Nat) (he0:e0=h.next k0) :
  Evo ρ w O (ρ.set k0 e0 ⟨L.b,L.base+off,L.room - off,false,esz⟩) w' O ∧
  HpR num Fb B0 (ρ.set k0 e0 ⟨L.b,L.base+off,L.room - off,false,esz⟩) w' O (h'.put k0 e0 (.blk cs' esz ag' false false)):=by
 obtain ⟨L0,c,T0,h1,h2,h3,h4,h5,h6,h7,h8,h9,h10⟩:=H.blk _ _ _ _ _ _ _ hg
 rw [h1] at hL;cases hL
 subst he0
 have hf:=next_fresh H k0
 have H':HpR num Fb B0 ρ w O h':=by
  rw [hh];split
  ·exact H
  ·exact H.kill hg
 have hget:∀ k',k' ≠ k0→∀ e' o',h'.get k'=some (e',o')→o' ≠ .dead→k' ≠ k∧h.get k'=some (e',o'):=by
  intro k' hk0 e' o' hg' hd
  rw [hh] at hg'
  split at hg'
  ·rename_i hkk;exact ⟨fun e=>hk0 (e.trans hkk),hg'⟩
  ·rw [get_put] at hg'
   by_cases hk:k=k'
   ·simp [hk] at hg';exact absurd hg'.2.symm hd
   ·simp [hk] at hg';exact ⟨fun e=>hk e.symm,hg'⟩
 have hnx:∀ e1 o1,h'.get k0=some (e1,o1)→e1≤h.next k0:=by
  intro e1 o1 hg1
  rw [hh] at hg1
  split at hg1
  ·exact next_le h k0 _ _ hg1
  ·rename_i hkk
   rw [get_put,if_neg hkk] at hg1
   exact next_le h k0 _ _ hg1
 have ev:Evo ρ w O (ρ.set k0 (h.next k0) ⟨L.b,L.base+off,L.room - off,false,esz⟩) w' O:=
  let ev0:=ht.evo (ρ := ρ) (h9 rfl)
  {ev0 with rho:=Rho.set_keeps hf}
 refine ⟨ev,H'.put ev ?_ hnx ?_ ?_ ?_ ?_⟩
 ·intro k' e' L' hL'
  unfold Rho.set at hL'
  split at hL'
  ·rename_i hc;exact .inr hc
  ·exact .inl hL'
 ·intro b hO;rw [ht.size];exact H.own b hO
 ·intro k' e' o' L' hk hg' hd hL'
  obtain ⟨a1,a2⟩:=hget k' hk e' o' hg' hd
  exact ⟨ht.other _ (live_ne H hg rfl h1 a1 a2 hd hL'),id⟩
 ·refine ⟨_,c',T,Rho.set_same _ _ _ _,rfl,rfl,ht.here,by simp;omega,hlen,?_,h8,fun _=>h9 rfl,fun h=>by cases h⟩
  intro i x hx
  obtain ⟨y,hy,hr⟩:=hc i x hx
  exact ⟨y,hy,hr.evo ev⟩
 ·intro _ k' e' o' L1 L2 hk hg' hl hL' hL1 hb
  rw [Rho.set_same] at hL1;cases hL1
  obtain ⟨a1,a2⟩:=hget k' hk e' o' hg' (by intro e;subst e;cases hl)
  exact live_ne H hg rfl h1 a1 a2 (by intro e;subst e;cases hl) hL' hb.symm
end
end Go.Tev
end
section
namespace Go.Tev
open Go.RowKit
inductive All2 {α β : Type} (R : α → β → Prop):List α → List β → Prop
 | nil:All2 R [] []
 | cons {a : α} {b : β} {l:List α} {m:List β}:R a b→All2 R l m→All2 R (a :: l) (b :: m)
theorem All2.length {α β : Type} {R : α → β → Prop} {l:List α} {m:List β} (h:All2 R l m):l.length=m.length:=by
 induction h with
 | nil=>rfl
 | cons _ _ ih=>simp [ih]
theorem All2.get {α β : Type} {R : α → β → Prop} {l:List α} {m:List β} (h:All2 R l m):∀ (i:Nat) (x : α) (y : β),l[i]?=some x→m[i]?=some y→R x y:=by
 induction h with
 | nil=>intro i x y hx;simp at hx
 | cons hr _ ih=>
  intro i x y hx hy
  cases i with
  | zero=>simp at hx hy;exact hx ▸ hy ▸ hr
  | succ i=>exact ih i x y (by simpa using hx) (by simpa using hy)
def fitV1:AV→Value→Bool
 | .bool a,.bool b=>a == b
 | .int k n,.int k' n'=>k == k'&&n == n'
 | .str s,.string t=>s == t.data.toList
 | .nilp,.pointer none=>true
 | .nilm,.map none=>true
 | .nilf,.nilFunc=>true
 | .nili,.nilIface=>true
 | .sl true [] _,.slice none 0 0=>true
 | _,_=>false
def fitL:List AV→List Value→Bool
 | [],[]=>true
 | x :: r,y :: s=>fitV1 x y&&fitL r s
 | _,_=>false
def fitV:AV→Value→Bool
 | .agg cs,.agg vs=>fitL cs vs.toList
 | .tup cs,.tuple vs=>fitL cs vs.toList
 | v,c=>fitV1 v c
def fitX (num gnum:Nat→Nat):X→Operand→Bool
 | .t n,.tmp m=>n == m
 | .c v,.const c=>fitV v c
 | .g n,.global g=>gnum n == g
 | .f n,.func f=>num n == f
 | _,_=>false
section
variable {num:Nat→Nat} {ρ : Rho} {w:World} {F:Nat→Prop}
theorem fitV1_sound {v:AV} {c:Value} (h:fitV1 v c=true):Rv num ρ w F v c:=by
 unfold fitV1 at h
 split at h
 ·simp at h;subst h;exact .bool _
 ·simp at h;obtain ⟨rfl,rfl⟩:=h;exact .int _ _
 ·rename_i s t
  have:t=⟨s.toArray⟩:=by
   cases t;simp at h;subst h;rfl
  subst this;exact .str s
 ·exact .nilp
 ·exact .nilm
 ·exact .nilf
 ·exact .nili
 ·exact .nsl _
 ·cases h
theorem fitL_sound:∀ {l:List AV} {m:List Value},fitL l m=true→All2 (Rv num ρ w F) l m
 | [],[],_ => .nil
 | [],_ :: _,h=>by simp [fitL] at h
 | _ :: _,[],h=>by simp [fitL] at h
 | _ :: _,_ :: _,h=>by
  simp only [fitL,Bool.and_eq_true] at h
  exact .cons (fitV1_sound h.1) (fitL_sound h.2)
theorem Rv.of_all2_agg {cs:List AV} {vs:Array Value} (h:All2 (Rv num ρ w F) cs vs.toList):Rv num ρ w F (.agg cs) (.agg vs):=
 .agg cs vs (by simpa using h.length) (fun i x y hx hy=>h.get i x y hx (by simpa using hy))
theorem Rv.of_all2_tup {cs:List AV} {vs:Array Value} (h:All2 (Rv num ρ w F) cs vs.toList):Rv num ρ w F (.tup cs) (.tuple vs):=
 .tup cs vs (by simpa using h.length) (fun i x y hx hy=>h.get i x y hx (by simpa using hy))
theorem fitV_sound {v:AV} {c:Value} (h:fitV v c=true):Rv num ρ w F v c:=by
 unfold fitV at h
 split at h
 ·exact .of_all2_agg (fitL_sound h)
 ·exact .of_all2_tup (fitL_sound h)
 ·exact fitV1_sound h
end
def aggT (P:Program) (t:TypeId):Option Bool:=
 match P.underlying t with
 | some (.struct _) | some (.array _ _)=>some true
 | some _=>some false
 | none=>none
def fitT (P:Program) (t:TypeId) (sz:Nat) (ag:Bool):Bool:=(P.info? t).map (·.size) == some sz&&aggT P t == some ag&&(ag||sz == 1)
def fitB (P:Program) (t:TypeId) (bytes:Nat):Bool:=(P.info? t).map (·.bytes) == some bytes
def fitZ (P:Program) (t:TypeId) (zero:List AV):Bool:=
 match P.info? t with
 | some i=>match i.zero with | some z=>fitL zero z.cells.toList | none=>false
 | none=>false
def isStr (P:Program) (t:TypeId):Bool:=match P.underlying t with | some .string=>true | _=>false
def isInt (P:Program) (t:TypeId):Bool:=match P.underlying t with | some (.int _)=>true | _=>false
def isBool (P:Program) (t:TypeId):Bool:=match P.underlying t with | some .bool=>true | _=>false
def isU8 (P:Program) (t:TypeId):Bool:=match P.underlying t with | some (.int .u8)=>true | _=>false
def elemT (P:Program) (t:TypeId):Option TypeId:=match P.underlying t with | some (.slice e)=>some e | _=>none
def isIface (P:Program) (t:TypeId):Bool:=match P.underlying t with | some (.interface _)=>true | _=>false
theorem isStr_eq {P:Program} {t:TypeId} (h:isStr P t=true):P.underlying t=some .string:=by
 unfold isStr at h;split at h<;>first | assumption | cases h
theorem isInt_eq {P:Program} {t:TypeId} (h:isInt P t=true):∃ k,P.underlying t=some (.int k):=by
 unfold isInt at h;split at h<;>first | exact ⟨_,by assumption⟩ | cases h
theorem isBool_eq {P:Program} {t:TypeId} (h:isBool P t=true):P.underlying t=some .bool:=by
 unfold isBool at h;split at h<;>first | assumption | cases h
theorem isU8_eq {P:Program} {t:TypeId} (h:isU8 P t=true):P.underlying t=some (.int .u8):=by
 unfold isU8 at h;split at h<;>first | assumption | cases h
theorem elemT_eq {P:Program} {t e:TypeId} (h:elemT P t=some e):P.underlying t=some (.slice e):=by
 unfold elemT at h;split at h
 ·cases h;assumption
 ·cases h
def fieldT (P:Program) (t:TypeId) (f:Nat):Option Field:=
 match P.underlying t with
 | some (.struct fs)=>fs[f]?
 | _=>none
def guardO (b:Bool) (l:List Operand):Option (List Operand):=if b then some l else none
theorem guardO_eq {b:Bool} {l m:List Operand} (h:guardO b l=some m):b=true∧m=l:=by
 unfold guardO at h
 split at h
 ·cases h;exact ⟨by assumption,rfl⟩
 ·cases h
def fitParts (P:Program) (t:TypeId):List (Nat × Operand)→List (Nat × Nat)→Bool
 | [],[]=>true
 | (i,_) :: r,(off,sz) :: s=>
  (match P.underlying t with
   | some (.struct fs)=>match fs[i]? with | some f=>f.offset == off&&(P.info? f.type).map (·.size) == some sz | none=>false
   | some (.array _ e)=>(P.info? e).map (·.size) == some sz&&off == i*sz
   | _=>false)&&fitParts P t r s
 | _,_=>false
def kindT (P:Program) (t:TypeId):Nat→Bool
 | 0=>isInt P t
 | 1=>isStr P t
 | 2=>isBool P t
 | _=>false
def partsOk (P:Program) (t:TypeId):Bool:=
 match P.underlying t with
 | some (.struct fs)=>fs.toList.all fun f=>(P.info? f.type).isSome
 | some (.array _ e)=>(P.info? e).isSome
 | _=>false
def plainFields (P:Program):Nat→List Field→List Nat→Bool
 | _,[],[]=>true
 | i,f :: fs,q :: qs=>f.offset == i&&f.name != "_" && kindT P f.type q&&plainFields P (i+1) fs qs
 | _,_,_=>false
def plainStruct (P:Program) (t:TypeId) (qs:List Nat):Bool:=
 match P.underlying t with
 | some (.struct fs)=>plainFields P 0 fs.toList qs
 | _=>false
def bcall:Op→Option (Builtin × List Operand × Array TypeId)
 | .call c=>match c.callee with
  | .builtin b=>some (b,c.args.toList,c.argTypes)
  | _=>none
 | _=>none
theorem bcall_run {P:Program} {o:Oper} {b:Builtin} {args:List Operand} {tys:Array TypeId} {ρv:Operand→Value} {w:World} (h:bcall o.op=some (b,args,tys)) :
  ∃ consts,(execOp ρv o).run P w=(builtin b tys o.type consts (args.map ρv).toArray).run P w:=by
 unfold bcall at h
 split at h
 ·rename_i c hc
  split at h
  ·rename_i b' hb
   cases h
   have hm:(List.map ρv c.args.toList).toArray=Array.map ρv c.args:=by rw [← Array.toList_map]
   have key:∀ s,resolve ρv c o.type=pure s→(execOp ρv o).run P w=(invoke s.target s.args).run P w:=by
    intro s hs
    simp only [execOp,hc,hs]
    rfl
   refine ⟨c.args.map fun | .const _=>true | _=>false,?_⟩
   rw [hm]
   exact (key _ (by unfold resolve;rw [hb])).trans rfl
  ·cases h
 ·cases h
def fitZV (P:Program) (t:TypeId) (zero:AV):Bool:=
 match P.info? t with
 | some i=>match i.zero with | some z=>fitV zero z | none=>false
 | none=>false
def mupO:Op→Option (TypeId × Operand × Operand × Operand)
 | .mapUpdate t m k x=>some (t,m,k,x)
 | .insert t m k x=>some (t,m,k,x)
 | _=>none
def fitK (P:Program) (num:Nat→Nat) (o:Oper):K→Option (List Operand)
 | .bad=>some []
 | .mov=>match o.op with
  | .move x=>some [x]
  | .assign x=>some [x]
  | _=>none
 | .cvs=>match o.op with
  | .convert s d x=>guardO (isStr P s&&isStr P d) [x]
  | _=>none
 | .pick=>match o.op with | .pick c a b=>some [c,a,b] | _=>none
 | .box=>match o.op with | .box _ x=>some [x] | _=>none
 | .alloc zero ag=>match o.op with | .alloc t=>guardO (fitZ P t zero) [] | _=>none
 | .build zero parts=>match o.op with
  | .build t ps=>guardO (fitZ P t zero&&fitParts P t ps.toList parts&&partsOk P t) (ps.toList.map (·.2))
  | _=>none
 | .mkSl esz ag own=>match o.op with
  | .buildSlice t n ps=>match elemT P t with
   | some e=>guardO (fitT P e esz ag&&ps.toList.map (·.1) == List.range n&&decide (n*esz≤16777216)&&((P.info? e).bind (·.zero)).any (·.cells.size == esz)&&esz != 0) (ps.toList.map (·.2))
   | none=>none
  | _=>none
 | .mkZ esz ag=>match o.op with
  | .buildSlice t n ps=>match elemT P t with
   | some e=>guardO (fitT P e esz ag&&ps.toList.map (·.1) == List.range n&&decide (n*esz≤16777216)&&((P.info? e).bind (·.zero)).any (·.cells.size == esz)&&esz != 0) (ps.toList.map (·.2))
   | none=>none
  | _=>none
 | .load sz ag=>match o.op with | .load t a=>guardO (fitT P t sz ag) [a] | _=>none
 | .store sz ag=>match o.op with | .store t a v=>guardO (fitT P t sz ag) [a,v] | _=>none
 | .nilc=>match o.op with | .nilCheck x=>some [x] | _=>none
 | .bin op=>match o.op with | .binOp op' _ x y _=>guardO (op == op') [x,y] | _=>none
 | .beq ng=>match o.op with
  | .binOp .eql t x y _=>guardO (!ng&&isBool P t) [x,y]
  | .binOp .neq t x y _=>guardO (ng&&isBool P t) [x,y]
  | _=>none
 | .eqn q ng=>match o.op with
  | .binOp op t x y _=>guardO (((op == .eql && !ng)||(op == .neq&&ng))&&(match q,P.underlying t,y with
    | 0,some (.pointer _),.const (.pointer none)=>true
    | 1,some (.slice _),.const (.slice none 0 0)=>true
    | 2,some (.map _ _),.const (.map none)=>true
    | 3,some (.func _ _ _),.const .nilFunc=>true
    | 4,some (.interface _),.const .nilIface=>true
    | _,_,_=>false)) [x]
  | _=>none
 | .eqs ng qs=>match o.op with
  | .binOp op t x y _=>guardO (((op == .eql && !ng)||(op == .neq&&ng))&&plainStruct P t qs && !P.stoodInHeld t && !P.eqGuardType P.depth t) [x,y]
  | _=>none
 | .un op=>match o.op with | .unOp op' _ x=>guardO (op == op') [x] | _=>none
 | .cvi k=>match o.op with
  | .convert s d x=>guardO ((match P.underlying d with | some (.int k')=>k == k' | _=>false)&&isInt P s) [x]
  | _=>none
 | .s2b=>match o.op with
  | .convert s d x=>guardO (isStr P s&&(match elemT P d with | some e=>isU8 P e | none=>false)) [x]
  | _=>none
 | .b2s=>match o.op with
  | .convert s d x=>guardO (isStr P d&&(match elemT P s with | some e=>isU8 P e | none=>false)) [x]
  | _=>none
 | .fld off sz ag=>match o.op with
  | .field t x f=>match fieldT P t f with
   | some fd=>guardO (fd.offset == off&&fitT P fd.type sz ag) [x]
   | none=>none
  | _=>none
 | .fad off sz ag=>match o.op with
  | .fieldAddr t x f=>match fieldT P t f with
   | some fd=>guardO (fd.offset == off&&fitT P fd.type sz ag&&sz != 0) [x]
   | none=>none
  | _=>none
 | .iad esz ag arr=>match o.op with
  | .indexAddr t x i=>guardO (match P.underlying t,arr with
    | some (.slice e),none=>fitT P e esz ag
    | some (.array n e),some m=>n == m&&fitT P e esz ag
    | _,_=>false) [x,i]
  | _=>none
 | .ixs=>match o.op with | .index t x i=>guardO (isStr P t) [x,i] | _=>none
 | .ixa len esz ag=>match o.op with
  | .index t x i=>guardO (match P.underlying t with | some (.array n e)=>n == len&&fitT P e esz ag | _=>false) [x,i]
  | _=>none
 | .slc esz lo hi mx=>match o.op with
  | .slice t x l h m=>match elemT P t with
   | some e=>guardO ((P.info? e).map (·.size) == some esz&&lo == l.isSome&&hi == h.isSome&&mx == m.isSome&&(!mx||hi)) ([x]++l.toList++h.toList++m.toList)
   | none=>none
  | _=>none
 | .sls lo hi=>match o.op with
  | .slice t x l h none=>guardO (isStr P t&&lo == l.isSome&&hi == h.isSome) ([x]++l.toList++h.toList)
  | _=>none
 | .sla len esz lo hi=>match o.op with
  | .slice t x l h none=>guardO ((match P.underlying t with | some (.array n e)=>n == len&&(P.info? e).map (·.size) == some esz | _=>false)&&lo == l.isSome&&hi == h.isSome) ([x]++l.toList++h.toList)
  | _=>none
 | .mks esz ag bytes zero=>match o.op with
  | .makeSlice t l c=>match elemT P t with
   | some e=>guardO (fitT P e esz ag&&fitB P e bytes&&fitZ P e zero) [l,c]
   | none=>none
  | _=>none
 | .len q=>match bcall o.op with
  | some (.len,[x],argTypes)=>guardO (match argTypes[0]? with
    | some t=>(match q,P.underlying t with | 0,some .string=>true | 1,some (.slice _)=>true | 2,some (.map _ _)=>true | _,_=>false)
    | none=>false) [x]
  | _=>none
 | .lenc n=>match bcall o.op with
  | some (.len,[x],argTypes)=>guardO (match argTypes[0]? with
    | some t=>(match P.underlying t with
     | some (.array m _)=>m == n
     | some (.pointer ar)=>(match P.underlying ar with | some (.array m _)=>m == n | _=>false)
     | _=>false)
    | none=>false) [x]
  | _=>none
 | .cap=>match bcall o.op with
  | some (.cap,[x],argTypes)=>guardO (match argTypes[0]? with
    | some t=>(elemT P t).isSome
    | none=>false) [x]
  | _=>none
 | .app esz ag bytes=>match bcall o.op with
  | some (.append,[x,y],argTypes)=>match argTypes[0]?,argTypes[1]? with
   | some t,some u=>match elemT P t with
    | some e=>guardO (fitT P e esz ag&&fitB P e bytes&&((P.info? e).bind (·.zero)).any (·.cells.size == esz)&&(t == u||isStr P u||(elemT P u).isSome)) [x,y]
    | none=>none
   | _,_=>none
  | _=>none
 | .apz esz ag bytes zero=>match bcall o.op with
  | some (.append,[x,y],argTypes)=>match argTypes[0]?,argTypes[1]? with
   | some t,some u=>match elemT P t with
    | some e=>guardO (fitT P e esz ag&&fitB P e bytes&&fitZ P e zero&&isInt P u) [x,y]
    | none=>none
   | _,_=>none
  | _=>none
 | .cpy esz ag=>match bcall o.op with
  | some (.copy,[x,y],argTypes)=>match argTypes[0]? with
   | some t=>match elemT P t with
    | some e=>guardO (fitT P e esz ag) [x,y]
    | none=>none
   | none=>none
  | _=>none
 | .mn=>match bcall o.op with
  | some (.min,args,_)=>some args
  | _=>none
 | .mx=>match bcall o.op with
  | some (.max,args,_)=>some args
  | _=>none
 | .ext i=>match o.op with | .extract t j=>guardO (i == j) [t] | _=>none
 | .mki=>match o.op with | .makeInterface t x=>guardO (!isIface P t&&(P.underlying t).isSome) [x] | _=>none
 | .mkf f=>match o.op with
  | .makeFunc (.func g) first cap=>guardO (num f == g&&first.size == 0) cap.toList
  | _=>none
 | .call f _ _=>match o.op with
  | .call {callee:=.value (.func g),args,.. }=>guardO (num f == g) args.toList
  | _=>none
 | .calle f=>match o.op with
  | .call {callee:=.value (.func g),args,.. }=>guardO (num f == g) args.toList
  | _=>none
 | .callr f=>match o.op with
  | .call {callee:=.value (.func g),args,.. }=>guardO (num f == g) args.toList
  | _=>none
 | .callv _ _=>match o.op with
  | .call {callee:=.value f,args,.. }=>some (f :: args.toList)
  | _=>none
 | .mkm=>match o.op with | .makeMap _ none=>some [] | _=>none
 | .mlk q zero ok=>match o.op with
  | .lookup t m x ok'=>match P.underlying t with
   | some (.map kt et)=>guardO (ok == ok'&&kindT P kt q&&fitZV P et zero) [m,x]
   | _=>none
  | _=>none
 | .mup q=>match mupO o.op with
  | some (t,m,x,y)=>match P.underlying t with
   | some (.map kt _)=>guardO (kindT P kt q) [m,x,y]
   | _=>none
  | none=>none
 | .mdel q=>match bcall o.op with
  | some (.delete,[m,x],argTypes)=>match argTypes[0]? with
   | some t=>match P.underlying t with
    | some (.map kt _)=>guardO (kindT P kt q) [m,x]
    | _=>none
   | none=>none
  | _=>none
 | .clr .. => none
end Go.Tev
end
section
namespace Go.Tev
open Go.RowKit
def Done (P:Program) (num:Nat→Nat) (Fb:Nat→Prop) (B0:Nat) (ρ : Rho) (w:World) (O:Nat→Prop) (h:Hp) (ρv:Operand→Value) (o:Oper) (v:AV) (eff:Eff):Prop:=
 ∃ n cv w' ρ' O',(execOp ρv o).run P w = .ok n w'∧(n = .value cv∨(n = .skip∧cv=undef))∧Evo ρ w O ρ' w' O'∧HpR num Fb B0 ρ' w' O' (eff.app h) ∧
  Rv num ρ' w' (fun b=>Fb b∨O' b) v cv
theorem wr_eq (k:IntKind) (n:Int):wr k n=k.wrap n:=by
 unfold wr
 cases k<;>simp only
 all_goals
  split
  ·simp only [IntKind.wrap,IntKind.bits,IntKind.signed];simp;omega
  ·rfl
theorem bin_sound {P:Program} {num:Nat→Nat} {ρ : Rho} {F:Nat→Prop} {op:BinOp} {a b r:AV} {x y:Value} (w:World) (t:TypeId) (ox oy:Operand) (h:bin op a b=some r)
  (ha:Rv num ρ w F a x) (hb:Rv num ρ w F b y):∃ cv,(do eqGuard op t ox oy x y;binOp op t x y:Sem Value).run P w = .ok cv w∧Rv num ρ w F r cv:=by
 unfold bin at h
 split at h
 ·obtain rfl:=ha.of_int
  obtain rfl:=hb.of_int
  rename_i k a k' b
  split at h
  ·split at h
   ·cases h
   ·cases h;rename_i hn;exact ⟨_,by (simp [eqGuard,binOp,Op.shift,hn]<;>rfl),.int _ _⟩
  ·split at h
   ·cases h
   ·cases h;rename_i hn;exact ⟨_,by (simp [eqGuard,binOp,Op.shift,hn]<;>rfl),.int _ _⟩
  ·rename_i hs1 hs2
   split at h
   ·rename_i hk;subst hk
    unfold binI at h
    cases op<;>simp only at h
    case shl=>exact absurd rfl hs1
    case shr=>exact absurd rfl hs2
    case quo=>
     split at h
     ·cases h
     ·rename_i hn;cases h;exact ⟨_,by (simp [eqGuard,binOp,Op.intDiv,hn,wr_eq]<;>rfl),.int _ _⟩
    case rem=>
     split at h
     ·cases h
     ·rename_i hn;cases h;exact ⟨_,by (simp [eqGuard,binOp,Op.intDiv,hn]<;>rfl),.int _ _⟩
    case add=>cases h;exact ⟨_,by (simp [eqGuard,binOp,Op.intArith,wr_eq]<;>rfl),.int _ _⟩
    case sub=>cases h;exact ⟨_,by (simp [eqGuard,binOp,Op.intArith,wr_eq]<;>rfl),.int _ _⟩
    case mul=>cases h;exact ⟨_,by (simp [eqGuard,binOp,Op.intArith,wr_eq]<;>rfl),.int _ _⟩
    case and=>cases h;exact ⟨_,by (simp [eqGuard,binOp,Op.intBits]<;>rfl),.int _ _⟩
    case or=>cases h;exact ⟨_,by (simp [eqGuard,binOp,Op.intBits]<;>rfl),.int _ _⟩
    case xor=>cases h;exact ⟨_,by (simp [eqGuard,binOp,Op.intBits]<;>rfl),.int _ _⟩
    case andNot=>cases h;exact ⟨_,by (simp [eqGuard,binOp,Op.intBits]<;>rfl),.int _ _⟩
    case eql=>cases h;exact ⟨.bool (decide (a=b)),by (simp [eqGuard,binOp,Op.intCmp]<;>rfl),.bool _⟩
    case neq=>cases h;exact ⟨.bool (!decide (a=b)),by (simp [eqGuard,binOp,Op.intCmp,bne]<;>rfl),.bool _⟩
    case lss=>cases h;exact ⟨_,by (simp [eqGuard,binOp,Op.intCmp]<;>rfl),.bool _⟩
    case leq=>cases h;exact ⟨_,by (simp [eqGuard,binOp,Op.intCmp]<;>rfl),.bool _⟩
    case gtr=>cases h;exact ⟨_,by (simp [eqGuard,binOp,Op.intCmp]<;>rfl),.bool _⟩
    case geq=>cases h;exact ⟨_,by (simp [eqGuard,binOp,Op.intCmp]<;>rfl),.bool _⟩
   ·cases h
 ·obtain rfl:=ha.of_str
  obtain rfl:=hb.of_str
  rename_i a b
  have hab:(a == b)=decide (a=b):=by by_cases e:a=b<;>simp [e]
  unfold binS at h
  cases op<;>simp only at h<;>(try (cases h;done))
  case add=>
   split at h
   ·rename_i hn
    cases h
    refine ⟨.string ⟨(a++b).toArray⟩,?_,.str _⟩
    have:=run_string_add_sum (P:=P) (w:=w) ⟨a.toArray⟩ ⟨b.toArray⟩ (by simpa [ByteArray.size] using hn)
    simp [eqGuard,binOp,this,ByteArray.mk_append_mk]
   ·cases h
  case eql=>cases h;exact ⟨.bool (decide (a=b)),by (simp [eqGuard,binOp,Op.stringOp,hab]<;>rfl),.bool _⟩
  case neq=>cases h;exact ⟨.bool (!decide (a=b)),by (simp [eqGuard,binOp,Op.stringOp,hab]<;>rfl),.bool _⟩
  case lss=>cases h;exact ⟨_,by (simp [eqGuard,binOp,Op.stringOp,hab]<;>rfl),.bool _⟩
  case leq=>cases h;exact ⟨.bool (Op.bytesLess a b||decide (a=b)),by (simp [eqGuard,binOp,Op.stringOp,hab]<;>rfl),.bool _⟩
  case gtr=>cases h;exact ⟨.bool (!(Op.bytesLess a b||decide (a=b))),by (simp [eqGuard,binOp,Op.stringOp,hab]<;>rfl),.bool _⟩
  case geq=>cases h;exact ⟨_,by (simp [eqGuard,binOp,Op.stringOp,hab]<;>rfl),.bool _⟩
 ·cases h
section
variable {P:Program} {num:Nat→Nat} {Fb:Nat→Prop} {B0:Nat} {ρ : Rho} {w:World} {O:Nat→Prop} {h:Hp} {ρv:Operand→Value} {o:Oper}
theorem Done.val {v:AV} {cv:Value} {rd:List Nat} (H:HpR num Fb B0 ρ w O h) (hr:(execOp ρv o).run P w = .ok (.value cv) w) (hv:Rv num ρ w (fun b=>Fb b∨O b) v cv) :
  Done P num Fb B0 ρ w O h ρv o v (.pat rd []):=
 ⟨_,cv,w,ρ,O,hr,.inl rfl,Evo.refl _ _ _,H,hv⟩
theorem val_eq {v v':AV} {e:Eff} (hh:Tev.val v=some (v',e)):v'=v∧e = .pat [] []:=by
 simp [Tev.val] at hh;exact ⟨hh.1.symm,hh.2.symm⟩
theorem All2.one {α β : Type} {R : α → β → Prop} {l:List α} {b : β} (hh:All2 R l [b]):∃ a,l=[a]∧R a b:=by
 cases hh with | cons h1 h2=>cases h2;exact ⟨_,rfl,h1⟩
theorem All2.two {α β : Type} {R : α → β → Prop} {l:List α} {b c : β} (hh:All2 R l [b,c]):∃ a a',l=[a,a']∧R a b∧R a' c:=by
 cases hh with | cons h1 h2=>obtain ⟨a,rfl,h3⟩:=h2.one;exact ⟨_,_,rfl,h1,h3⟩
theorem All2.three {α β : Type} {R : α → β → Prop} {l:List α} {b c d : β} (hh:All2 R l [b,c,d]):∃ a a' a'',l=[a,a',a'']∧R a b∧R a' c∧R a'' d:=by
 cases hh with | cons h1 h2=>obtain ⟨a,a',rfl,h3,h4⟩:=h2.two;exact ⟨_,_,_,rfl,h1,h3,h4⟩
variable (H:HpR num Fb B0 ρ w O h)
variable {k0:Nat} {l:List Operand} {vs:List AV} {v:AV} {eff:Eff}
variable (hv:All2 (Rv num ρ w (fun b=>Fb b∨O b)) vs (l.map ρv))
include H hv
theorem op_mov (hf:fitK P num o .mov=some l) (h1:op1 h k0 .mov vs=some (v,eff)):Done P num Fb B0 ρ w O h ρv o v eff:=by
 simp only [fitK] at hf
 split at hf
 ·cases hf;rename_i x ho
  obtain ⟨a,rfl,ha⟩:=hv.one
  simp only [op1] at h1;obtain ⟨rfl,rfl⟩:=val_eq h1
  exact .val H (by simp [execOp,ho]) ha
 ·cases hf;rename_i x ho
  obtain ⟨a,rfl,ha⟩:=hv.one
  simp only [op1] at h1;obtain ⟨rfl,rfl⟩:=val_eq h1
  exact .val H (by simp [execOp,ho]) ha
 ·cases hf
theorem op_cvs (hf:fitK P num o .cvs=some l) (h1:op1 h k0 .cvs vs=some (v,eff)):Done P num Fb B0 ρ w O h ρv o v eff:=by
 simp only [fitK] at hf
 split at hf
 ·rename_i s d x ho
  obtain ⟨hg,rfl⟩:=guardO_eq hf
  simp only [Bool.and_eq_true] at hg
  obtain ⟨a,rfl,ha⟩:=hv.one
  simp only [op1] at h1
  split at h1
  ·obtain ⟨rfl,rfl⟩:=val_eq h1
   have hx:=ha.of_str
   refine .val H (cv := ρv x) ?_ ha
   simp [execOp,ho,convert,run_underlying (isStr_eq hg.1),run_underlying (isStr_eq hg.2),hx]
  ·cases h1
 ·cases hf
theorem op_pick (hf:fitK P num o .pick=some l) (h1:op1 h k0 .pick vs=some (v,eff)):Done P num Fb B0 ρ w O h ρv o v eff:=by
 simp only [fitK] at hf
 split at hf
 ·cases hf;rename_i c x y ho
  obtain ⟨a,b,d,rfl,ha,hb,hd⟩:=hv.three
  simp only [op1] at h1
  split at h1
  ·rename_i t
   obtain ⟨rfl,rfl⟩:=val_eq h1
   have:=ha.of_bool
   refine .val (cv:=if t then ρv x else ρv y) H (by simp [execOp,ho,this,asBool]) ?_
   cases t<;>simpa using by assumption
  ·cases h1
 ·cases hf
theorem op_nilc (hf:fitK P num o .nilc=some l) (h1:op1 h k0 .nilc vs=some (v,eff)):Done P num Fb B0 ρ w O h ρv o v eff:=by
 simp only [fitK] at hf
 split at hf
 ·cases hf;rename_i x ho
  obtain ⟨a,rfl,ha⟩:=hv.one
  simp only [op1] at h1
  split at h1
  ·obtain ⟨rfl,rfl⟩:=val_eq h1
   obtain ⟨L,hx,_⟩:=ha.of_pt
   exact .val H (cv := ρv x) (by simp [execOp,ho,hx]) ha
  ·obtain ⟨rfl,rfl⟩:=val_eq h1
   obtain ⟨_,_,_,hx,_⟩:=ha.of_fp
   exact .val H (cv := ρv x) (by simp [execOp,ho,hx]) ha
  ·cases h1
 ·cases hf
theorem op_bin (op:BinOp) (hf:fitK P num o (.bin op)=some l) (h1:op1 h k0 (.bin op) vs=some (v,eff)):Done P num Fb B0 ρ w O h ρv o v eff:=by
 simp only [fitK] at hf
 split at hf
 ·rename_i op' t x y t' ho
  obtain ⟨hg,rfl⟩:=guardO_eq hf
  obtain rfl:op=op':=by simpa using hg
  obtain ⟨a,b,rfl,ha,hb⟩:=hv.two
  simp only [op1] at h1
  cases hbin:bin op a b with
  | none=>simp [hbin] at h1
  | some r=>
   rw [hbin] at h1
   obtain ⟨rfl,rfl⟩:=val_eq h1
   have key:=bin_sound (P:=P) (num:=num) (ρ := ρ) (F:=fun b=>Fb b∨O b) w t x y hbin ha hb
   obtain ⟨cv,h2,h3⟩:=key
   refine .val H (cv:=cv) ?_ h3
   simp only [execOp,ho]
   rw [Sem.run_bind] at h2
   cases he:(eqGuard op t x y (ρv x) (ρv y)).run P w with
   | ok u w1=>simp only [he,Result.andThen_ok] at h2;simp [he,h2]
   | halt e w1=>simp [he] at h2
 ·cases hf
theorem op_beq (ng:Bool) (hf:fitK P num o (.beq ng)=some l) (h1:op1 h k0 (.beq ng) vs=some (v,eff)):Done P num Fb B0 ρ w O h ρv o v eff:=by
 simp only [fitK] at hf
 split at hf
 case h_3=>cases hf
 all_goals
  rename_i t x y t' ho
  obtain ⟨hg,rfl⟩:=guardO_eq hf
  simp at hg
  obtain ⟨rfl,hg⟩:=hg
  obtain ⟨a,b,rfl,ha,hb⟩:=hv.two
  simp only [op1] at h1
  split at h1
  ·obtain ⟨rfl,rfl⟩:=val_eq h1
   have e1:=ha.of_bool
   have e2:=hb.of_bool
   refine .val H ?_ (.bool _)
   have q:∀ a b:Bool,(Op.equal t (.bool a) (.bool b)).run P w = .ok (a == b) w:=fun a b=>run_equalIn_bool w 9999 t a b (isBool_eq hg)
   simp [execOp,ho,e1,e2,eqGuard,binOp,q]
  ·cases h1
theorem op_un (op:UnOp) (hf:fitK P num o (.un op)=some l) (h1:op1 h k0 (.un op) vs=some (v,eff)):Done P num Fb B0 ρ w O h ρv o v eff:=by
 simp only [fitK] at hf
 split at hf
 ·rename_i op' t x ho
  obtain ⟨hg,rfl⟩:=guardO_eq hf
  obtain rfl:op=op':=by simpa using hg
  obtain ⟨a,rfl,ha⟩:=hv.one
  simp only [op1] at h1
  split at h1
  ·obtain ⟨rfl,rfl⟩:=val_eq h1
   have e1:=ha.of_int
   refine .val H ?_ (.int _ _)
   simp [execOp,ho,e1,Op.unary,Op.intArith,wr_eq]
  ·obtain ⟨rfl,rfl⟩:=val_eq h1
   have e1:=ha.of_bool
   refine .val H ?_ (.bool _)
   simp [execOp,ho,e1,Op.unary]
  ·cases h1
 ·cases hf
theorem op_cvi (k:IntKind) (hf:fitK P num o (.cvi k)=some l) (h1:op1 h k0 (.cvi k) vs=some (v,eff)):Done P num Fb B0 ρ w O h ρv o v eff:=by
 simp only [fitK] at hf
 split at hf
 ·rename_i s d x ho
  obtain ⟨hg,rfl⟩:=guardO_eq hf
  obtain ⟨a,rfl,ha⟩:=hv.one
  simp only [op1] at h1
  split at h1
  ·obtain ⟨rfl,rfl⟩:=val_eq h1
   have e1:=ha.of_int
   simp only [Bool.and_eq_true] at hg
   obtain ⟨g1,g2⟩:=hg
   split at g1
   ·rename_i k' hd
    obtain rfl:k=k':=by simpa using g1
    unfold isInt at g2
    split at g2
    ·rename_i ks hs
     refine .val H ?_ (.int _ _)
     simp [execOp,ho,e1,convert,run_underlying hs,run_underlying hd,Conv.intToInt,wr_eq]
    ·cases g2
   ·cases g1
  ·cases h1
 ·cases hf
end
end Go.Tev
end
section
namespace Go.Tev
open Go.RowKit
theorem fitT_eq {P:Program} {t:TypeId} {sz:Nat} {ag:Bool} (h:fitT P t sz ag=true) :
  ∃ i,P.info? t=some i∧i.size=sz∧aggT P t=some ag:=by
 unfold fitT at h
 simp only [Bool.and_eq_true,beq_iff_eq] at h
 obtain ⟨⟨h1,h2⟩,_⟩:=h
 cases hi:P.info? t with
 | none=>simp [hi] at h1
 | some i=>exact ⟨i,rfl,by simpa [hi] using h1,h2⟩
theorem fitT_one {P:Program} {t:TypeId} {sz:Nat} {ag:Bool} (h:fitT P t sz ag=true):ag=false→sz=1:=by
 unfold fitT at h
 simp only [Bool.and_eq_true] at h
 intro e;subst e
 simpa using h.2
theorem run_sizeOf' {P:Program} {t:TypeId} {i:TypeInfo} (w:World) (h:P.info? t=some i):(sizeOf t).run P w = .ok i.size w:=by
 simp [sizeOf,typeInfo,h]
theorem run_isAgg' {P:Program} {t:TypeId} {ag:Bool} (w:World) (h:aggT P t=some ag):(isAgg t).run P w = .ok ag w:=by
 unfold aggT at h
 unfold isAgg
 split at h
 ·rename_i fs hu;cases h;simp [run_underlying hu]
 ·rename_i n e hu;cases h;simp [run_underlying hu]
 ·rename_i d h1 h2 hu
  cases h
  simp only [Sem.run_bind,run_underlying hu,Result.andThen_ok]
  rfl
 ·cases h
section
variable {P:Program} {num:Nat→Nat} {ρ : Rho} {w:World} {F:Nat→Prop}
theorem run_part {cs:List AV} {vs:Array Value} {off sz:Nat} {ag:Bool} {v:AV} {t:TypeId} (hf:fitT P t sz ag=true) (hp:partA cs off sz ag=some v)
  (hl:cs.length=vs.size) (hr:∀ (i:Nat) (x:AV) (y:Value),cs[i]?=some x→vs[i]?=some y→Rv num ρ w F x y) :
  ∃ cv,(part t vs off).run P w = .ok cv w∧Rv num ρ w F v cv:=by
 obtain ⟨i,hi,rfl,ha⟩:=fitT_eq hf
 unfold partA at hp
 cases ag with
 | true=>
  simp only [if_true] at hp
  split at hp
  ·rename_i hle
   cases hp
   refine ⟨.agg (vs.extract off (off+i.size)),by simp [part,run_isAgg' w ha,run_sizeOf' w hi],.agg _ _ ?_ ?_⟩
   ·simp;omega
   ·intro j x y hx hy
    rw [List.getElem?_take] at hx
    split at hx
    ·rw [List.getElem?_drop] at hx
     refine hr (off+j) x y hx ?_
     rw [Array.getElem?_extract] at hy
     split at hy
     ·exact hy
     ·cases hy
    ·cases hx
  ·cases hp
 | false=>
  simp only [Bool.false_eq_true,if_false] at hp
  have hlt:off < cs.length:=by
   rcases Nat.lt_or_ge off cs.length with h | h
   ·exact h
   ·simp [List.getElem?_eq_none h] at hp
  have hv:vs[off]?=some vs[off]:=by simp [hl ▸ hlt]
  exact ⟨vs[off],by simp [part,run_isAgg' w ha,hv],hr off v _ hp hv⟩
theorem AV.fits_cells {v:AV} {sz:Nat} {ag:Bool} (h:v.fits sz ag=true):v.cells.length=sz∧v.isAgg=ag∧(ag=false→sz=1∧v.cells=[v]):=by
 cases v<;>simp [AV.fits,AV.cells,AV.isAgg] at h ⊢ <;> (try (obtain ⟨h1,h2⟩:=h;subst h1;subst h2;simp))<;>(try exact h.elim)
end
section
variable {P:Program} {num:Nat→Nat} {Fb:Nat→Prop} {B0:Nat} {ρ : Rho} {w:World} {O:Nat→Prop} {h:Hp} {ρv:Operand→Value} {o:Oper}
variable (H:HpR num Fb B0 ρ w O h)
variable {k0:Nat} {l:List Operand} {vs:List AV} {v:AV} {eff:Eff}
variable (hv:All2 (Rv num ρ w (fun b=>Fb b∨O b)) vs (l.map ρv))
include H hv
theorem op_fld (off sz:Nat) (ag:Bool) (hf:fitK P num o (.fld off sz ag)=some l) (h1:op1 h k0 (.fld off sz ag) vs=some (v,eff)):Done P num Fb B0 ρ w O h ρv o v eff:=by
 simp only [fitK] at hf
 split at hf
 ·rename_i t x f ho
  split at hf
  ·rename_i fd hfd
   obtain ⟨hg,rfl⟩:=guardO_eq hf
   simp only [Bool.and_eq_true,beq_iff_eq] at hg
   obtain ⟨rfl,hg⟩:=hg
   obtain ⟨a,rfl,ha⟩:=hv.one
   simp only [op1] at h1
   split at h1
   ·rename_i cs
    cases hp:partA cs fd.offset sz ag with
    | none=>simp [hp] at h1
    | some u=>
     rw [hp] at h1
     obtain ⟨rfl,rfl⟩:=val_eq h1
     obtain ⟨cv,hx,hl,hr⟩:=ha.of_agg
     obtain ⟨c,h2,h3⟩:=run_part (P:=P) (w:=w) hg hp hl hr
     refine .val H (cv:=c) ?_ h3
     unfold fieldT at hfd
     split at hfd
     ·rename_i fs hu
      simp [execOp,ho,Instr.field,run_underlying hu,hfd,hx,asAgg,h2]
     ·cases hfd
   ·cases h1
  ·cases hf
 ·cases hf
theorem op_ext (i:Nat) (hf:fitK P num o (.ext i)=some l) (h1:op1 h k0 (.ext i) vs=some (v,eff)):Done P num Fb B0 ρ w O h ρv o v eff:=by
 simp only [fitK] at hf
 split at hf
 ·rename_i x j ho
  obtain ⟨hg,rfl⟩:=guardO_eq hf
  obtain rfl:i=j:=by simpa using hg
  obtain ⟨a,rfl,ha⟩:=hv.one
  simp only [op1] at h1
  split at h1
  ·rename_i cs
   cases hp:cs[i]? with
   | none=>simp [hp] at h1
   | some u=>
    rw [hp] at h1
    obtain ⟨rfl,rfl⟩:=val_eq h1
    obtain ⟨c,hx,hl,hr⟩:=ha.of_tup
    have hlt:i < c.size:=by
     rcases Nat.lt_or_ge i cs.length with h | h
     ·omega
     ·simp [List.getElem?_eq_none h] at hp
    have hc:c[i]?=some c[i]:=by simp [hlt]
    exact .val H (cv:=c[i]) (by simp [execOp,ho,Instr.extract,hx,hc]) (hr i _ _ hp hc)
  ·cases h1
 ·cases hf
theorem op_mki (hf:fitK P num o .mki=some l) (h1:op1 h k0 .mki vs=some (v,eff)):Done P num Fb B0 ρ w O h ρv o v eff:=by
 simp only [fitK] at hf
 split at hf
 ·rename_i t x ho
  obtain ⟨hg,rfl⟩:=guardO_eq hf
  simp only [Bool.and_eq_true] at hg
  obtain ⟨a,rfl,ha⟩:=hv.one
  simp only [op1] at h1
  split at h1
  ·obtain ⟨rfl,rfl⟩:=val_eq h1
   refine .val H (cv:=.iface t (ρv x)) ?_ (.ifc _ _ _ ha)
   obtain ⟨g1,g2⟩:=hg
   cases hu:P.underlying t with
   | none=>simp [hu] at g2
   | some d=>
    simp only [isIface,hu,Bool.not_eq_true'] at g1
    simp only [execOp,ho,Instr.makeInterface,Sem.run_bind,run_underlying hu,Result.andThen_ok]
    split
    ·rename_i ms hd;cases hd
     simp at g1
    ·simp
  ·cases h1
 ·cases hf
theorem op_mkf (f:Nat) (hf:fitK P num o (.mkf f)=some l) (h1:op1 h k0 (.mkf f) vs=some (v,eff)):Done P num Fb B0 ρ w O h ρv o v eff:=by
 simp only [fitK] at hf
 split at hf
 ·rename_i g first cap ho
  obtain ⟨hg,rfl⟩:=guardO_eq hf
  simp only [Bool.and_eq_true,beq_iff_eq] at hg
  obtain ⟨rfl,hz⟩:=hg
  have hfi:first = #[]:=by simpa using hz
  subst hfi
  simp only [op1] at h1
  obtain ⟨rfl,rfl⟩:=val_eq h1
  refine .val H (cv:=.func (.func (num f)) #[] (cap.map ρv)) (by simp [execOp,ho,Instr.makeFunc]) (.fn _ _ _ ?_ ?_)
  ·simpa using hv.length
  ·intro i x y hx hy
   exact hv.get i x y hx (by simpa using hy)
 ·cases hf
theorem op_fad (off sz:Nat) (ag:Bool) (hf:fitK P num o (.fad off sz ag)=some l) (h1:op1 h k0 (.fad off sz ag) vs=some (v,eff)):Done P num Fb B0 ρ w O h ρv o v eff:=by
 simp only [fitK] at hf
 split at hf
 ·rename_i t x f ho
  split at hf
  ·rename_i fd hfd
   obtain ⟨hg,rfl⟩:=guardO_eq hf
   simp only [Bool.and_eq_true,beq_iff_eq,bne_iff_ne] at hg
   obtain ⟨⟨rfl,hg⟩,hz⟩:=hg
   obtain ⟨a,rfl,ha⟩:=hv.one
   obtain ⟨i,hi,hsz,hag⟩:=fitT_eq hg
   have hrun:∀ b off',ρv x = .pointer (some ⟨b,off',none⟩)→(execOp ρv o).run P w = .ok (.value (.pointer (some ⟨b,off'+fd.offset,none⟩))) w:=by
    intro b off' hx
    unfold fieldT at hfd
    split at hfd
    ·rename_i fs hu
     have hne:¬ i.size=0:=by omega
     simp [execOp,ho,Instr.fieldAt,run_underlying hu,hfd,hx,Instr.sureAddr,fieldPlace,run_sizeOf' w hi,hne,Addr.add]
     try (intro h0;simp [h0])
    ·cases hfd
   simp only [op1] at h1
   split at h1
   ·rename_i cs
    cases hp:partA cs fd.offset sz ag with
    | none=>simp [hp] at h1
    | some u=>
     simp only [hp,Option.bind_some] at h1
     split at h1
     case isFalse=>cases h1
     rename_i hfit
     obtain ⟨hfc,_,hfo⟩:=AV.fits_cells hfit
     obtain ⟨rfl,rfl⟩:=val_eq h1
     obtain ⟨b,off',m,hx,hF,hb,hm,hr⟩:=ha.of_fp
     refine .val H (hrun _ _ hx) ?_
     simp only [AV.cells] at hm hr
     unfold partA at hp
     cases ag with
     | true=>
      simp only [if_true] at hp
      split at hp
      ·rename_i hle
       cases hp
       refine .fp _ _ _ (fun n=>m (fd.offset+n)) hF hb ?_ ?_
       ·intro n hn
        simp only [AV.cells,List.length_take,List.length_drop] at hn
        rw [Nat.add_assoc]
        exact hm _ (by omega)
       ·intro j y hy
        simp only [AV.cells,List.getElem?_take] at hy
        split at hy
        ·rw [List.getElem?_drop] at hy
         exact hr _ _ hy
        ·cases hy
      ·cases hp
     | false=>
      simp only [Bool.false_eq_true,if_false] at hp
      have hlt:fd.offset < cs.length:=by
       rcases Nat.lt_or_ge fd.offset cs.length with h | h
       ·exact h
       ·simp [List.getElem?_eq_none h] at hp
      obtain ⟨q1,q2⟩:=hfo rfl
      refine .fp _ _ _ (fun n=>m (fd.offset+n)) hF hb ?_ ?_
      ·intro n hn
       rw [q2] at hn
       simp at hn
       subst hn
       exact hm _ hlt
      ·intro j y hy
       rw [q2] at hy
       cases j with
       | zero=>simp at hy;subst hy;exact hr _ _ hp
       | succ j=>simp at hy
   ·obtain ⟨rfl,rfl⟩:=val_eq h1
    obtain ⟨L,hx,hL⟩:=ha.of_pt
    have:=hrun _ _ hx
    refine .val H this ?_
    rw [Nat.add_assoc]
    exact .pt _ _ _ L hL
   ·cases h1
  ·cases hf
 ·cases hf
end
end Go.Tev
end
section
namespace Go.Tev
open Go.RowKit
section
variable {P:Program} {num:Nat→Nat} {Fb:Nat→Prop} {B0:Nat} {ρ : Rho} {w:World} {O:Nat→Prop} {h:Hp} {ρv:Operand→Value} {o:Oper}
variable (H:HpR num Fb B0 ρ w O h)
variable {k0:Nat} {l:List Operand} {vs:List AV} {v:AV} {eff:Eff}
variable (hv:All2 (Rv num ρ w (fun b=>Fb b∨O b)) vs (l.map ρv))
variable (hcst:∀ c,ρv (.const c)=c)
theorem addr_add (b off n:Nat):(Addr.add ⟨b,off,none⟩ n)=⟨b,off+n,none⟩:=by
 unfold Addr.add;split
 ·rename_i h0;simp [h0]
 ·rfl
include H hv
theorem op_iad (esz:Nat) (ag:Bool) (arr:Option Nat) (hf:fitK P num o (.iad esz ag arr)=some l) (h1:op1 h k0 (.iad esz ag arr) vs=some (v,eff)) :
  Done P num Fb B0 ρ w O h ρv o v eff:=by
 simp only [fitK] at hf
 split at hf
 case h_2=>cases hf
 rename_i t x i ho
 obtain ⟨hg,rfl⟩:=guardO_eq hf
 obtain ⟨a,b,rfl,ha,hb⟩:=hv.two
 simp only [op1] at h1
 split at h1
 case h_2=>cases h1
 rename_i ki n
 have hi:=hb.of_int
 split at hg
 case h_3=>cases hg
 ·
  rename_i e hu
  obtain ⟨ti,hti,hsz,hag⟩:=fitT_eq hg
  have hrun:∀ b' off' len cap',ρv x = .slice (some ⟨b',off',none⟩) len cap'→0≤n→n < len →
    (execOp ρv o).run P w = .ok (.value (.pointer (some ⟨b',off'+n.toNat*esz,none⟩))) w:=by
   intro b' off' len cap' hx h0 hlt
   simp [execOp,ho,Instr.indexAt,hi,asIntOf,run_underlying hu,hx,h0,hlt,run_sizeOf' w hti,addr_add,hsz]
  split at h1
  ·rename_i nl es cl _
   split at h1
   case isFalse=>cases h1
   rename_i h0
   split at h1
   case h_2=>cases h1
   rename_i u hu'
   split at h1
   case isFalse=>cases h1
   rename_i hfit
   obtain ⟨rfl,rfl⟩:=val_eq h1
   obtain ⟨hfc,_,_⟩:=AV.fits_cells hfit
   have hlt:n.toNat < es.length:=by
    rcases Nat.lt_or_ge n.toNat es.length with q | q
    ·exact q
    ·simp [List.getElem?_eq_none q] at hu'
   cases nl with
   | true=>obtain ⟨rfl,_⟩:=ha.of_nsl;simp at hlt
   | false=>
    obtain ⟨b',off',cap',sz,m,sp,hx,hsp,_,_,hF,hz,hm,hr⟩:=ha.of_sl
    have hne:es ≠ []:=by intro q;subst q;simp at hlt
    rw [hsp hne] at hx
    have hs:sz=esz:=by rw [← hfc];exact (hz _ _ hu').symm
    subst hs
    refine .val H (hrun _ _ _ _ hx h0 (by omega)) ?_
    refine .fp _ _ _ (fun j=>m (n.toNat*sz+j)) (hF hne).1 (hF hne).2 ?_ ?_
    ·intro j hj
     rw [hfc] at hj
     rw [Nat.add_assoc]
     refine hm _ ?_
     have:(n.toNat+1)*sz≤es.length*sz:=Nat.mul_le_mul_right _ hlt
     rw [Nat.add_mul,Nat.one_mul] at this
     omega
    ·intro j y hy
     exact hr _ _ _ _ hu' hy
  ·rename_i k e' off len cap
   split at h1
   case isFalse=>cases h1
   rename_i h0
   obtain ⟨rfl,rfl⟩:=val_eq h1
   obtain ⟨cap',L,hx,hL,_⟩:=ha.of_rf
   refine .val H (hrun _ _ _ _ hx h0.1 h0.2) ?_
   rw [Nat.add_assoc]
   exact .pt _ _ _ L hL
  ·rename_i heq;cases heq
  ·rename_i heq;cases heq
  ·cases h1
 ·
  rename_i n' e m hu
  simp only [Bool.and_eq_true,beq_iff_eq] at hg
  obtain ⟨rfl,hg⟩:=hg
  obtain ⟨ti,hti,hsz,hag⟩:=fitT_eq hg
  have hrun:∀ b' off',ρv x = .pointer (some ⟨b',off',none⟩)→0≤n→n < n' →
    (execOp ρv o).run P w = .ok (.value (.pointer (some ⟨b',off'+n.toNat*esz,none⟩))) w:=by
   intro b' off' hx h0 hlt
   simp [execOp,ho,Instr.indexAt,hi,asIntOf,run_underlying hu,hx,Instr.sureAddr,h0,hlt,run_sizeOf' w hti,addr_add,hsz]
  split at h1
  ·rename_i heq;cases heq
  ·rename_i heq;cases heq
  ·rename_i len cs heq
   cases heq
   split at h1
   case isFalse=>cases h1
   rename_i h0
   cases hp:partA cs (n.toNat*esz) esz ag with
   | none=>simp [hp] at h1
   | some u=>
    simp only [hp,Option.bind_some] at h1
    split at h1
    case isFalse=>cases h1
    rename_i hfit
    obtain ⟨hfc,_,hfo⟩:=AV.fits_cells hfit
    obtain ⟨rfl,rfl⟩:=val_eq h1
    obtain ⟨b',off',m,hx,hF,hbb,hm,hr⟩:=ha.of_fp
    refine .val H (hrun _ _ hx h0.1 h0.2) ?_
    simp only [AV.cells] at hm hr
    unfold partA at hp
    refine .fp _ _ _ (fun j=>m (n.toNat*esz+j)) hF hbb ?_ ?_
    ·intro j hj
     rw [hfc] at hj
     rw [Nat.add_assoc]
     refine hm _ ?_
     cases ag with
     | true=>
      simp only [if_true] at hp
      split at hp
      ·omega
      ·cases hp
     | false=>
      simp only [Bool.false_eq_true,if_false] at hp
      obtain ⟨q1,q2⟩:=hfo rfl
      rcases Nat.lt_or_ge (n.toNat*esz) cs.length with q | q
      ·omega
      ·simp [List.getElem?_eq_none q] at hp
    ·intro j y hy
     cases ag with
     | true=>
      simp only [if_true] at hp
      split at hp
      ·cases hp
       simp only [AV.cells,List.getElem?_take] at hy
       split at hy
       ·rw [List.getElem?_drop] at hy
        exact hr _ _ hy
       ·cases hy
      ·cases hp
     | false=>
      simp only [Bool.false_eq_true,if_false] at hp
      obtain ⟨q1,q2⟩:=hfo rfl
      rw [q2] at hy
      cases j with
      | zero=>simp at hy;subst hy;exact hr _ _ hp
      | succ j=>simp at hy
  ·rename_i len k e' off heq
   cases heq
   split at h1
   case isFalse=>cases h1
   rename_i h0
   obtain ⟨rfl,rfl⟩:=val_eq h1
   obtain ⟨L,hx,hL⟩:=ha.of_pt
   refine .val H (hrun _ _ hx h0.1 h0.2) ?_
   rw [Nat.add_assoc]
   exact .pt _ _ _ L hL
  ·cases h1
theorem op_ixs (hf:fitK P num o .ixs=some l) (h1:op1 h k0 .ixs vs=some (v,eff)):Done P num Fb B0 ρ w O h ρv o v eff:=by
 simp only [fitK] at hf
 split at hf
 case h_2=>cases hf
 rename_i t x i ho
 obtain ⟨hg,rfl⟩:=guardO_eq hf
 obtain ⟨a,b,rfl,ha,hb⟩:=hv.two
 simp only [op1] at h1
 split at h1
 case h_2=>cases h1
 rename_i s k n
 split at h1
 case isFalse=>cases h1
 rename_i h0
 split at h1
 case h_2=>cases h1
 rename_i c hc
 obtain ⟨rfl,rfl⟩:=val_eq h1
 have hlt:n.toNat < s.length:=by
  rcases Nat.lt_or_ge n.toNat s.length with q | q
  ·exact q
  ·simp [List.getElem?_eq_none q] at hc
 refine .val H ?_ (.int _ _)
 have e1:=ha.of_str
 have e2:=hb.of_int
 have hget:(⟨s.toArray⟩:ByteArray)[n.toNat]?=some c:=by
  rw [getElem?_pos _ _ (by simpa [ByteArray.size] using hlt)]
  rw [List.getElem?_eq_getElem hlt] at hc
  have:=Option.some.inj hc
  rw [← this]
  rfl
 simp [execOp,ho,Instr.index,e1,e2,asIntOf,run_underlying (isStr_eq hg),h0,hget]
theorem op_ixa (len esz:Nat) (ag:Bool) (hf:fitK P num o (.ixa len esz ag)=some l) (h1:op1 h k0 (.ixa len esz ag) vs=some (v,eff)):Done P num Fb B0 ρ w O h ρv o v eff:=by
 simp only [fitK] at hf
 split at hf
 case h_2=>cases hf
 rename_i t x i ho
 obtain ⟨hg,rfl⟩:=guardO_eq hf
 obtain ⟨a,b,rfl,ha,hb⟩:=hv.two
 simp only [op1] at h1
 split at h1
 case h_2=>cases h1
 rename_i cs k n
 split at h1
 case isFalse=>cases h1
 rename_i h0
 split at hg
 case h_2=>cases hg
 rename_i n' e hu
 simp only [Bool.and_eq_true,beq_iff_eq] at hg
 obtain ⟨rfl,hg⟩:=hg
 obtain ⟨ti,hti,hsz,hag⟩:=fitT_eq hg
 cases hp:partA cs (n.toNat*esz) esz ag with
 | none=>simp [hp] at h1
 | some u=>
  simp only [hp,Option.bind_some] at h1
  obtain ⟨rfl,rfl⟩:=val_eq h1
  obtain ⟨cv,hx,hl,hr⟩:=ha.of_agg
  obtain ⟨c,h2,h3⟩:=run_part (P:=P) (w:=w) hg hp hl hr
  have e2:=hb.of_int
  refine .val H (cv:=c) ?_ h3
  simp [execOp,ho,Instr.index,hx,e2,asIntOf,run_underlying hu,h0,run_sizeOf' w hti,hsz,h2]
include hcst in
theorem op_eqn (q:Nat) (ng:Bool) (hf:fitK P num o (.eqn q ng)=some l) (h1:op1 h k0 (.eqn q ng) vs=some (v,eff)):Done P num Fb B0 ρ w O h ρv o v eff:=by
 simp only [fitK] at hf
 split at hf
 case h_2=>cases hf
 rename_i op t x y t' ho
 obtain ⟨hg,rfl⟩:=guardO_eq hf
 simp only [Bool.and_eq_true] at hg
 obtain ⟨hop,hg⟩:=hg
 obtain ⟨a,rfl,ha⟩:=hv.one
 simp only [op1] at h1
 split at h1
 case h_2=>cases h1
 rename_i bb hnil
 obtain ⟨rfl,rfl⟩:=val_eq h1
 have key:(Op.equal t (ρv x) (ρv y)).run P w = .ok bb w→eqGuard op t x y (ρv x) (ρv y)=pure ()→(∀ a,binOp .eql t (ρv x) (ρv y)=a→a=(do pure (.bool (← Op.equal t (ρv x) (ρv y))))) →
   (∀ a,binOp .neq t (ρv x) (ρv y)=a→a=(do pure (.bool (!(← Op.equal t (ρv x) (ρv y))))))→Done P num Fb B0 ρ w O h ρv o (AV.bool (if ng=true then !bb else bb)) (Eff.pat [] []):=by
  intro k1 k2 k3 k4
  refine .val H ?_ (.bool _)
  cases ng with
  | false=>
   obtain rfl:op = .eql:=by simpa using hop
   simp [execOp,ho,k2,k3 _ rfl,k1]
  | true=>
   obtain rfl:op = .neq:=by simpa using hop
   simp [execOp,ho,k2,k4 _ rfl,k1]
 have big:∀ (x' y':Value) (b:Bool),ρv x=x' → ρv y=y'→(∀ d,(Op.equalIn (d+1) t x' y').run P w = .ok b w)→(Op.equal t (ρv x) (ρv y)).run P w = .ok b w:=by
  intro x' y' b hx hy hh
  rw [hx,hy];exact hh 9999
 split at hg
 ·rename_i e hu
  have hy : ρv (.const (.pointer none)) = .pointer none:=hcst _
  cases a<;>simp only [AV.isNil] at hnil<;>(try (cases hnil;done))<;>cases hnil
  ·have hx:=ha.of_nilp
   exact key (big _ _ _ hx hy (fun d=>by simp [Op.equalIn,run_underlying hu])) (by simp [hx,hy,eqGuard]) (by simp [hx,hy,binOp]) (by simp [hx,hy,binOp])
  ·obtain ⟨_,_,_,hx,_⟩:=ha.of_fp
   exact key (big _ _ _ hx hy (fun d=>by simp [Op.equalIn,run_underlying hu])) (by simp [hx,hy,eqGuard]) (by simp [hx,hy,binOp]) (by simp [hx,hy,binOp])
  ·obtain ⟨_,hx,_⟩:=ha.of_pt
   exact key (big _ _ _ hx hy (fun d=>by simp [Op.equalIn,run_underlying hu])) (by simp [hx,hy,eqGuard]) (by simp [hx,hy,binOp]) (by simp [hx,hy,binOp])
 ·rename_i e hu
  have hy : ρv (.const (.slice none 0 0)) = .slice none 0 0:=hcst _
  cases a<;>simp only [AV.isNil] at hnil<;>(try (cases hnil;done))<;>cases hnil
  ·rename_i es cl
   cases bb with
   | true=>
    obtain ⟨rfl,hx⟩:=ha.of_nsl
    exact key (big _ _ _ hx hy (fun d=>by simp [Op.equalIn,run_underlying hu])) (by simp [hx,hy,eqGuard]) (by simp [hx,hy,binOp]) (by simp [hx,hy,binOp])
   | false=>
    obtain ⟨_,_,_,_,_,_,hx,_⟩:=ha.of_sl
    exact key (big _ _ _ hx hy (fun d=>by simp [Op.equalIn,run_underlying hu])) (by simp [hx,hy,eqGuard]) (by simp [hx,hy,binOp]) (by simp [hx,hy,binOp])
  ·obtain ⟨_,_,hx,_⟩:=ha.of_rf
   exact key (big _ _ _ hx hy (fun d=>by simp [Op.equalIn,run_underlying hu])) (by simp [hx,hy,eqGuard]) (by simp [hx,hy,binOp]) (by simp [hx,hy,binOp])
 ·rename_i e e' hu
  have hy : ρv (.const (.map none)) = .map none:=hcst _
  cases a<;>simp only [AV.isNil] at hnil<;>(try (cases hnil;done))<;>cases hnil
  ·have hx:=ha.of_nilm
   exact key (big _ _ _ hx hy (fun d=>by simp [Op.equalIn,run_underlying hu])) (by simp [hx,hy,eqGuard]) (by simp [hx,hy,binOp]) (by simp [hx,hy,binOp])
  ·obtain ⟨_,hx,_⟩:=ha.of_mp
   exact key (big _ _ _ hx hy (fun d=>by simp [Op.equalIn,run_underlying hu])) (by simp [hx,hy,eqGuard]) (by simp [hx,hy,binOp]) (by simp [hx,hy,binOp])
 ·rename_i e e' e'' hu
  have hy : ρv (.const .nilFunc) = .nilFunc:=hcst _
  cases a<;>simp only [AV.isNil] at hnil<;>(try (cases hnil;done))<;>cases hnil
  ·have hx:=ha.of_nilf
   exact key (big _ _ _ hx hy (fun d=>by simp [Op.equalIn,run_underlying hu])) (by simp [hx,hy,eqGuard]) (by simp [hx,hy,binOp]) (by simp [hx,hy,binOp])
  ·obtain ⟨_,hx,_⟩:=ha.of_fn
   exact key (big _ _ _ hx hy (fun d=>by simp [Op.equalIn,run_underlying hu])) (by simp [hx,hy,eqGuard]) (by simp [hx,hy,binOp]) (by simp [hx,hy,binOp])
 ·rename_i e hu
  have hy : ρv (.const .nilIface) = .nilIface:=hcst _
  cases a<;>simp only [AV.isNil] at hnil<;>(try (cases hnil;done))<;>cases hnil
  ·have hx:=ha.of_nili
   exact key (big _ _ _ hx hy (fun d=>by simp [Op.equalIn,run_underlying hu])) (by simp [hx,hy,eqGuard]) (by simp [hx,hy,binOp]) (by simp [hx,hy,binOp])
  ·obtain ⟨_,_,hx,_⟩:=ha.of_ifc
   exact key (big _ _ _ hx hy (fun d=>by simp [Op.equalIn,run_underlying hu])) (by simp [hx,hy,eqGuard]) (by simp [hx,hy,binOp]) (by simp [hx,hy,binOp])
 ·cases hg
theorem op_lenc (n:Nat) (hf:fitK P num o (.lenc n)=some l) (h1:op1 h k0 (.lenc n) vs=some (v,eff)):Done P num Fb B0 ρ w O h ρv o v eff:=by
 simp only [fitK] at hf
 split at hf
 case h_2=>cases hf
 rename_i x tys ho
 obtain ⟨hg,rfl⟩:=guardO_eq hf
 obtain ⟨a,rfl,ha⟩:=hv.one
 simp only [op1] at h1
 obtain ⟨rfl,rfl⟩:=val_eq h1
 obtain ⟨cn,hrun⟩:=bcall_run (P:=P) (ρv := ρv) (w:=w) ho
 refine .val H (cv:=.int .i64 n) ?_ (.int _ _)
 rw [hrun]
 split at hg
 case h_2=>cases hg
 rename_i t ht
 split at hg
 ·rename_i m e hu
  obtain rfl:m=n:=by simpa using hg
  simp [builtin,Builtin.len_,ht,run_underlying hu,goInt]
 ·rename_i ar hu
  split at hg
  ·rename_i m e hu'
   obtain rfl:m=n:=by simpa using hg
   simp [builtin,Builtin.len_,ht,run_underlying hu,run_underlying hu',goInt]
  ·cases hg
 ·cases hg
theorem op_len (q:Nat) (hf:fitK P num o (.len q)=some l) (h1:op1 h k0 (.len q) vs=some (v,eff)):Done P num Fb B0 ρ w O h ρv o v eff:=by
 simp only [fitK] at hf
 split at hf
 case h_2=>cases hf
 rename_i x tys ho
 obtain ⟨hg,rfl⟩:=guardO_eq hf
 obtain ⟨a,rfl,ha⟩:=hv.one
 obtain ⟨cn,hrun⟩:=bcall_run (P:=P) (ρv := ρv) (w:=w) ho
 split at hg
 case h_2=>cases hg
 rename_i t ht
 split at hg
 case h_4=>cases hg
 ·rename_i hu
  simp only [op1] at h1
  split at h1
  ·obtain ⟨rfl,rfl⟩:=val_eq h1
   have hx:=ha.of_str
   rename_i s
   have hsz:(⟨s.toArray⟩:ByteArray).size=s.length:=by simp [ByteArray.size]
   refine .val H (cv:=.int .i64 s.length) ?_ (.int _ _)
   rw [hrun]
   simp [builtin,Builtin.len_,ht,run_underlying hu,hx,goInt,hsz]
  ·cases h1
 ·rename_i e hu
  simp only [op1] at h1
  split at h1
  ·rename_i nl es cl
   obtain ⟨rfl,rfl⟩:=val_eq h1
   cases nl with
   | true=>
    obtain ⟨rfl,hx⟩:=ha.of_nsl
    refine .val H (cv:=.int .i64 _) ?_ (.int _ _)
    rw [hrun]
    simp [builtin,Builtin.len_,ht,run_underlying hu,hx,goInt]
   | false=>
    obtain ⟨_,_,_,_,_,_,hx,_⟩:=ha.of_sl
    refine .val H (cv:=.int .i64 _) ?_ (.int _ _)
    rw [hrun]
    simp [builtin,Builtin.len_,ht,run_underlying hu,hx,goInt]
  ·obtain ⟨rfl,rfl⟩:=val_eq h1
   obtain ⟨_,_,hx,_⟩:=ha.of_rf
   refine .val H (cv:=.int .i64 _) ?_ (.int _ _)
   rw [hrun]
   simp [builtin,Builtin.len_,ht,run_underlying hu,hx,goInt]
  ·cases h1
 ·rename_i e e' hu
  simp only [op1] at h1
  split at h1
  ·obtain ⟨rfl,rfl⟩:=val_eq h1
   have hx:=ha.of_nilm
   refine .val H (cv:=.int .i64 _) ?_ (.int _ _)
   rw [hrun]
   simp [builtin,Builtin.len_,ht,run_underlying hu,hx,goInt]
  ·split at h1
   ·rename_i es hes
    split at h1
    ·rename_i he;subst he
     cases h1
     obtain ⟨L,hx,hL⟩:=ha.of_mp
     obtain ⟨L',c,clock,h2,h3,h4,_⟩:=H.mpo _ _ _ hes
     rw [hL] at h2;cases h2
     refine .val H (cv:=.int .i64 _) ?_ (.int _ _)
     rw [hrun]
     simp [builtin,Builtin.len_,ht,run_underlying hu,hx,goInt,getObj,Sem.run,h3,h4]
    ·cases h1
   ·cases h1
  ·cases h1
theorem op_cap (hf:fitK P num o .cap=some l) (h1:op1 h k0 .cap vs=some (v,eff)):Done P num Fb B0 ρ w O h ρv o v eff:=by
 simp only [fitK] at hf
 split at hf
 case h_2=>cases hf
 rename_i x tys ho
 obtain ⟨hg,rfl⟩:=guardO_eq hf
 obtain ⟨a,rfl,ha⟩:=hv.one
 obtain ⟨cn,hrun⟩:=bcall_run (P:=P) (ρv := ρv) (w:=w) ho
 split at hg
 case h_2=>cases hg
 rename_i t ht
 cases hel:elemT P t with
 | none=>simp [hel] at hg
 | some e=>
  have hu:=elemT_eq hel
  simp only [op1] at h1
  split at h1
  ·rename_i nl es cl
   split at h1
   ·rename_i hcl
    obtain ⟨rfl,rfl⟩:=val_eq h1
    refine .val H (cv:=.int .i64 es.length) ?_ (.int _ _)
    rw [hrun]
    cases nl with
    | true=>
     obtain ⟨rfl,hx⟩:=ha.of_nsl
     simp [builtin,Builtin.cap_,ht,run_underlying hu,hx,goInt]
    | false=>
     obtain ⟨_,_,_,_,_,_,hx,_,_,hc,_⟩:=ha.of_sl
     have:=hc (by simpa using hcl)
     simp [builtin,Builtin.cap_,ht,run_underlying hu,hx,goInt,this]
   ·cases h1
  ·split at h1
   ·rename_i hb
    split at h1
    ·rename_i he;subst he
     cases h1
     obtain ⟨cap',L,hx,hL,_,_,htt,_⟩:=ha.of_rf
     obtain ⟨L',c,T,h2,h3,_⟩:=H.blk _ _ _ _ _ _ _ hb
     rw [hL] at h2;cases h2
     have:=htt h3
     subst this
     refine .val H (cv:=.int .i64 _) ?_ (.int _ _)
     rw [hrun]
     simp [builtin,Builtin.cap_,ht,run_underlying hu,hx,goInt]
    ·cases h1
   ·cases h1
  ·cases h1
omit H hv in
theorem foldA_sound {f:AV→AV→Option AV} {g:Value→Value→Sem Value} {F:Nat→Prop} (hfg:∀ a b r x y,f a b=some r→Rv num ρ w F a x→Rv num ρ w F b y→∃ z,(g x y).run P w = .ok z w∧Rv num ρ w F r z) :
  ∀ (l:List AV) (m:List Value) (a:AV) (x:Value) (r:AV),foldA f a l=some r→Rv num ρ w F a x→All2 (Rv num ρ w F) l m→∃ z,(m.foldlM g x).run P w = .ok z w∧Rv num ρ w F r z:=by
 intro l
 induction l with
 | nil=>
  intro m a x r hr ha hl
  cases hl
  simp [foldA] at hr
  subst hr
  exact ⟨x,by simp,ha⟩
 | cons b l ih=>
  intro m a x r hr ha hl
  cases hl with
  | cons hb hl=>
   simp only [foldA] at hr
   cases hfb:f a b with
   | none=>simp [hfb] at hr
   | some z=>
    rw [hfb] at hr
    obtain ⟨z',h2,h3⟩:=hfg _ _ _ _ _ hfb ha hb
    obtain ⟨z'',h4,h5⟩:=ih _ _ _ _ hr h3 hl
    exact ⟨z'',by simp [h2,h4],h5⟩
theorem op_mn (hf:fitK P num o .mn=some l) (h1:op1 h k0 .mn vs=some (v,eff)):Done P num Fb B0 ρ w O h ρv o v eff:=by
 simp only [fitK] at hf
 split at hf
 case h_2=>cases hf
 rename_i args tys ho
 cases hf
 obtain ⟨cn,hrun⟩:=bcall_run (P:=P) (ρv := ρv) (w:=w) ho
 cases vs with
 | nil=>simp [op1] at h1
 | cons a r=>
  simp only [op1] at h1
  cases hfo:foldA min2 a r with
  | none=>simp [hfo] at h1
  | some u=>
   rw [hfo] at h1
   obtain ⟨rfl,rfl⟩:=val_eq h1
   cases l with
   | nil=>cases hv
   | cons x args=>
    cases hv with
    | cons ha hr=>
     obtain ⟨z,h2,h3⟩:=foldA_sound (P:=P) (g:=Builtin.min2) (by
      intro a b r x y hh hx hy
      unfold min2 at hh
      split at hh
      ·split at hh
       ·cases hh
        obtain rfl:=hx.of_int
        obtain rfl:=hy.of_int
        exact ⟨_,rfl,.int _ _⟩
       ·cases hh
      ·cases hh) _ _ _ _ _ hfo ha hr
     refine .val H (cv:=z) ?_ h3
     rw [hrun]
     simp [builtin,Builtin.min_,h2]
theorem op_mx (hf:fitK P num o .mx=some l) (h1:op1 h k0 .mx vs=some (v,eff)):Done P num Fb B0 ρ w O h ρv o v eff:=by
 simp only [fitK] at hf
 split at hf
 case h_2=>cases hf
 rename_i args tys ho
 cases hf
 obtain ⟨cn,hrun⟩:=bcall_run (P:=P) (ρv := ρv) (w:=w) ho
 cases vs with
 | nil=>simp [op1] at h1
 | cons a r=>
  simp only [op1] at h1
  cases hfo:foldA max2 a r with
  | none=>simp [hfo] at h1
  | some u=>
   rw [hfo] at h1
   obtain ⟨rfl,rfl⟩:=val_eq h1
   cases l with
   | nil=>cases hv
   | cons x args=>
    cases hv with
    | cons ha hr=>
     obtain ⟨z,h2,h3⟩:=foldA_sound (P:=P) (g:=Builtin.max2) (by
      intro a b r x y hh hx hy
      unfold max2 at hh
      split at hh
      ·split at hh
       ·cases hh
        obtain rfl:=hx.of_int
        obtain rfl:=hy.of_int
        exact ⟨_,rfl,.int _ _⟩
       ·cases hh
      ·cases hh) _ _ _ _ _ hfo ha hr
     refine .val H (cv:=z) ?_ h3
     rw [hrun]
     simp [builtin,Builtin.max_,h2]
end
end Go.Tev
end
