import GoSem.Step
import Derived.Below
import Derived.Orders
import Derived.Laws.IdiomCopy
set_option linter.all false
section
namespace Go.Tev
inductive AV where
 |top
 |bool (b:Bool)
 |int (k:IntKind) (n:Int)
 |str (s:List UInt8)
 |nilp|nilm|nilf|nili
 |agg (cs:List AV)
 |tup (cs:List AV)
 |sl (nl:Bool) (es:List AV) (cl:Bool)
 |fp (v:AV)
 |rf (k e off len cap:Nat)
 |pt (k e off:Nat)
 |mp (k e:Nat)
 |yl (k e:Nat)
 |fn (f:Nat) (cs:List AV)
 |ifc (v:AV)
 |os (es:List AV) (esz:Nat) (ag:Bool)
 deriving Inhabited
inductive K where
 |mov
 |pick
 |box
 |alloc (zero:List AV) (ag:Bool)
 |build (zero:List AV) (parts:List (Nat×Nat))
 |mkSl (esz:Nat) (ag:Bool) (own:Bool)
 |load (sz:Nat) (ag:Bool)
 |store (sz:Nat) (ag:Bool)
 |nilc
 |bin (op:BinOp)
 |beq (ng:Bool)
 |eqn (q:Nat) (ng:Bool)
 |eqs (ng:Bool) (qs:List Nat)
 |un (op:UnOp)
 |cvi (k:IntKind)
 |cvs
 |s2b
 |b2s
 |fld (off sz:Nat) (ag:Bool)
 |fad (off sz:Nat) (ag:Bool)
 |iad (esz:Nat) (ag:Bool) (arr:Option Nat)
 |ixs
 |ixa (len esz:Nat) (ag:Bool)
 |slc (esz:Nat) (lo hi mx:Bool)
 |sls (lo hi:Bool)
 |sla (len esz:Nat) (lo hi:Bool)
 |mks (esz:Nat) (ag:Bool) (bytes:Nat) (zero:List AV)
 |len (q:Nat)
 |lenc (n:Nat)
 |cap
 |app (esz:Nat) (ag:Bool) (bytes:Nat)
 |apz (esz:Nat) (ag:Bool) (bytes:Nat) (zero:List AV)
 |cpy (esz:Nat) (ag:Bool)
 |clr (esz:Nat) (zero:List AV)
 |mn
 |mx
 |ext (i:Nat)
 |mki
 |mkf (f:Nat)
 |call (f:Nat) (th im:Bool)
 |callv (th im:Bool)
 |mkm
 |mlk (q:Nat) (zero:AV) (ok:Bool)
 |mup (q:Nat)
 |mdel (q:Nat)
 |men (q:Nat) (zero:AV)
 |mes
 |bx (q:Nat)
 |rng
 |ent
 |mkZ (esz:Nat) (ag:Bool)
 |frz
 |calle (f:Nat)
 |callr (f:Nat)
 |bad
 deriving Inhabited
inductive X where
 |t (n:Nat)
 |c (v:AV)
 |g (n:Nat)
 |f (n:Nat)
 deriving Inhabited
structure R where
 d:Option Nat
 k:K
 xs:List X
 gd:Option (Nat×Bool):=none
 bef:Nat:=0
 s:Nat:=0
 deriving Inhabited
inductive C where
 |skip
 |reg (rs:List R) (draw:Bool)
 |seq (a b:C)
 |cond (c:X) (a b:C)
 |block (id:Nat) (b:C)
 |loop (b:C) (clr:List Bool)
 |exit (id:Nat)
 |ret
 |rf (x:X) (s:Nat) (ps:List Nat) (a b:C)
 |mr (it nx more out:Nat) (b:C) (clr:List Bool)
 |bad
 deriving Inhabited
inductive Ob where
 |blk (cs:List AV) (esz:Nat) (ag ti fz:Bool)
 |mpo (es:List (AV×AV)) (bs:List Nat) (ck:Nat)
 |itr (mk me since:Nat) (seen:List Nat) (last:Nat)
 |lp (st b:Nat) (env:List AV) (ps:List Nat) (ca cb:C)
 |dead
 deriving Inhabited
structure Ent where
 k:Nat
 e:Nat
 o:Ob
 deriving Inhabited
abbrev Hp:=List Ent
def Hp.get:Hp->Nat->Option (Nat×Ob)
 |[],_=>none
 |x::r,k=>if x.k=k then some (x.e,x.o) else Hp.get r k
def Hp.put:Hp->Nat->Nat->Ob->Hp
 |[],k,e,o=>[⟨k,e,o⟩]
 |x::r,k,e,o=>if k<x.k then ⟨k,e,o⟩::x::r else if x.k=k then ⟨k,e,o⟩::r else x::Hp.put r k e o
def Hp.next(h:Hp)(k:Nat):Nat:=match h.get k with|some (e,_)=>e+1|none=>0
def AV.cells:AV->List AV
 |.agg cs=>cs
 |v=>[v]
def AV.isAgg:AV->Bool
 |.agg _=>true
 |_=>false
def AV.one:AV->Bool
 |.top|.agg _|.tup _|.os .. => false
 |_=>true
def bQ:List AV->Bool
 |[]=>true
 |x::r=>x.one&&bQ r
def AV.fits(v:AV)(sz:Nat)(ag:Bool):Bool:=
 match v with
 |.agg cs=>ag&&cs.length==sz
 |.top|.tup _|.os .. => false
 |_ => !ag&&sz==1
mutual
def AV.tree:AV->Bool
 |.rf ..|.pt ..|.mp ..|.yl ..|.os .. => false
 |.agg cs|.tup cs=>treeL cs
 |.sl _ es _=>treeL es
 |.fp v|.ifc v=>v.tree
 |.fn _ cs=>treeL cs
 |_=>true
def treeL:List AV->Bool
 |[]=>true
 |x::r=>x.tree&&treeL r
end
mutual
def AV.flat:AV->Bool
 |.rf ..|.pt ..|.mp ..|.yl ..|.fp _=>false
 |.agg cs|.tup cs=>AI cs
 |.sl _ es _=>es.isEmpty
 |.ifc v=>v.flat
 |.fn _ cs=>AI cs
 |.os es _ _=>AI es
 |_=>true
def AI:List AV->Bool
 |[]=>true
 |x::r=>x.flat&&AI r
end
def lV(esz:Nat)(ag:Bool):Nat->List AV->Option (List AV)
 |0,_=>some []
 |n+1,cs=>
  if ag then
   if cs.length<esz then none else (lV esz ag n (cs.drop esz)).map (.agg (cs.take esz) :: ·)
  else
   match esz,cs with
   |1,c::r=>if c.isAgg then none else (lV esz ag n r).map (c :: ·)
   |_,_=>none
def bB(esz:Nat)(ag:Bool):List AV->Option (List AV)
 |[]=>some []
 |x::r=>if x.fits esz ag&&bQ x.cells then (bB esz ag r).map (x.cells ++ ·) else none
def cE(f:AV->Option (AV×List Nat)):List AV->Option (List AV×List Nat)
 |[]=>some ([],[])
 |x::r=>
  match f x with
  |none=>none
  |some (y,s)=>
   match cE f r with
   |none=>none
   |some (l,s')=>some (y::l,s++s')
def snap:Nat->Hp->AV->Option (AV×List Nat)
 |0,_,_=>none
 |d+1,h,v=>
  if v.tree then some (v,[]) else
  match v with
  |.agg cs=>(cE (snap d h) cs).map fun(l,s)=>(.agg l,s)
  |.tup cs=>(cE (snap d h) cs).map fun(l,s)=>(.tup l,s)
  |.sl nl es cl=>(cE (snap d h) es).map fun(l,s)=>(.sl nl l cl,s)
  |.ifc v=>(snap d h v).map fun(x,s)=>(.ifc x,s)
  |.fn f cs=>(cE (snap d h) cs).map fun(l,s)=>(.fn f l,s)
  |.rf k e off len cap=>
   match h.get k with
   |some (e',.blk cs esz ag ti _)=>
    if e'=e then
     match lV esz ag len (cs.drop off) with
     |some es=>(cE (snap d h) es).map fun(l,s)=>(.sl false l (ti&&len==cap),k::s)
     |none=>none
    else none
   |_=>none
  |.pt k e off=>
   match h.get k with
   |some (e',.blk cs esz ag _ _)=>
    if e'=e/\off=0/\esz=cs.length then
     match cE (snap d h) cs with
     |some (l,s)=>if ag then some (.fp (.agg l),k::s) else match l with|[v]=>if v.isAgg then none else some (.fp v,k::s)|_=>none
     |none=>none
    else none
   |_=>none
  |_=>none
def depth:Nat:=64
def cC(h:Hp):List Nat->List Ent
 |[]=>[]
 |k::r=>
  match h.get k with
  |some (e,.blk cs esz ag ti false)=>⟨k,e,.blk cs esz ag ti true⟩::cC (h.put k e (.blk cs esz ag ti true)) r
  |_=>cC h r
def cF(h:Hp):List Ent->Hp
 |[]=>h
 |x::r=>cF (h.put x.k x.e x.o) r
def conv(h:Hp)(v:AV):Option AV:=
 match v with
 |.rf k e off len cap=>
  match h.get k with
  |some (e',.blk cs esz ag _ false)=>
   if e'=e then
    match lV esz ag len (cs.drop off) with
    |some es=>
     match cE (snap depth h) es with
     |some (l,s)=>if s.contains k then none else some (.os l esz ag)
     |none=>none
    |none=>none
   else none
  |_=>(snap depth h (.rf k e off len cap)).map (·.1)
 |v=>(snap depth h v).map (·.1)
def fG(h:Hp)(k:Nat)(th:Bool)(r:AV):Option (AV×List Ent):=
 match r with
 |.os es esz ag=>
  if th then
   match bB esz ag es with
   |some cs=>some (.rf k (h.next k) 0 es.length es.length,[⟨k,h.next k,.blk cs esz ag false false⟩])
   |none=>none
  else some (.sl false es false,[])
 |v=>some (v,[])
def wr(k:IntKind)(n:Int):Int:=
 match k with
 |.i64=>if -9223372036854775808<=n/\n<=9223372036854775807 then n else k.wrap n
 |.u8=>if 0<=n/\n<=255 then n else k.wrap n
 |.u64=>if 0<=n/\n<=18446744073709551615 then n else k.wrap n
 |.i32=>if -2147483648<=n/\n<=2147483647 then n else k.wrap n
 |.u32=>if 0<=n/\n<=4294967295 then n else k.wrap n
 |_=>k.wrap n
def bits(k:IntKind)(f:BitVec k.bits->BitVec k.bits->BitVec k.bits)(a b:Int):AV:=
 .int k (k.wrap (f (BitVec.ofInt k.bits a) (BitVec.ofInt k.bits b)).toNat)
def R4(op:BinOp)(k:IntKind)(a b:Int):Option AV:=
 match op with
 |.add=>some (.int k (wr k (a+b)))
 |.sub=>some (.int k (wr k (a-b)))
 |.mul=>some (.int k (wr k (a*b)))
 |.quo=>if b=0 then none else some (.int k (wr k (a.tdiv b)))
 |.rem=>if b=0 then none else some (.int k (a.tmod b))
 |.and=>some (bits k (· &&& ·) a b)
 | .or=>some (bits k (· ||| ·) a b)
 |.xor=>some (bits k (· ^^^ ·) a b)
 |.andNot=>some (bits k (fun x y=>x &&& ~~~y) a b)
 |.eql=>some (.bool (decide (a=b)))
 |.neq=>some (.bool (!decide (a=b)))
 |.lss=>some (.bool (decide (a<b)))
 |.leq=>some (.bool (decide (a<=b)))
 |.gtr=>some (.bool (decide (b<a)))
 |.geq=>some (.bool (decide (b<=a)))
 |_=>none
def MX(op:BinOp)(a b:List UInt8):Option AV:=
 match op with
 |.add=>if a.length+b.length<=9223372036854775807 then some (.str (a++b)) else none
 |.eql=>some (.bool (decide (a=b)))
 |.neq=>some (.bool (!decide (a=b)))
 |.lss=>some (.bool (Op.bytesLess a b))
 | .leq=>some (.bool (Op.bytesLess a b||decide (a=b)))
 | .gtr=>some (.bool (!(Op.bytesLess a b||decide (a=b))))
 |.geq=>some (.bool (!Op.bytesLess a b))
 |_=>none
def bin(op:BinOp)(x y:AV):Option AV:=
 match x,y with
 |.int k a,.int k' b=>
  match op with
  |.shl=>if b<0 then none else some (.int k (k.wrap (a*2 ^ (min b.toNat k.bits))))
  |.shr=>if b<0 then none else some (.int k (a.fdiv (2 ^ (min b.toNat k.bits))))
  |_=>if k=k' then R4 op k a b else none
 |.str a,.str b=>MX op a b
 |_,_=>none
def AV.isNil:Nat->AV->Option Bool
 |0,.nilp=>some true
 |0,.fp _=>some false
 |0,.pt .. => some false
 |1,.sl nl _ _=>some nl
 |1,.rf .. => some false
 |2,.nilm=>some true
 |2,.mp .. => some false
 |3,.nilf=>some true
 |3,.fn .. => some false
 |4,.nili=>some true
 |4,.ifc _=>some false
 |_,_=>none
def eq1:AV->AV->Option Bool
 |.int k a,.int k' b=>if k=k' then some (decide (a=b)) else none
 |.str a,.str b=>some (decide (a=b))
 |.bool a,.bool b=>some (a==b)
 |_,_=>none
def eqC:List Nat->List AV->List AV->Option Bool
 |[],[],[]=>some true
 |q::qs,x::r,y::s=>
  match (match q,x,y with
   |0,.int k a,.int k' b=>if k=k' then some (decide (a=b)) else none
   |1,.str a,.str b=>some (decide (a=b))
   |2,.bool a,.bool b=>some (a==b)
   |_,_,_=>none),eqC qs r s with
  |some a,some b=>some (a&&b)
  |_,_=>none
 |_,_,_=>none
inductive Eff where
 |pat (rd:List Nat) (pa:List Ent)
 |whole (h:Hp)
 |all (pa:List Ent)
def Eff.app(h:Hp):Eff->Hp
 |.pat _ pa=>cF h pa
 |.whole h'=>h'
 |.all pa=>cF h pa
def val(v:AV):Option (AV×Eff):=some (v,.pat [] [])
def fH(cs:List AV)(off sz:Nat)(ag:Bool):Option AV:=
 if ag then if off+sz<=cs.length then some (.agg ((cs.drop off).take sz)) else none
 else cs[off]?
def dK(cs:List AV)(off:Nat)(new:List AV):List AV:=cs.take off++new++cs.drop (off+new.length)
def oD(zero:List AV):List (Nat×Nat)->List AV->Option (List AV)
 |[],[]=>some zero
 |(off,sz)::ps,v::vs=>
  if v.cells.length=sz/\off+sz<=zero.length/\v.fits sz v.isAgg then oD (dK zero off v.cells) ps vs else none
 |_,_=>none
def nY(h:Hp)(k:Nat)(o:Ob)(v:Nat->AV):Option (AV×Eff):=
 some (v (h.next k),.pat [k] [⟨k,h.next k,o⟩])
def aP(h:Hp)(esz:Nat)(ag:Bool):AV->Option (List AV×Nat×List Nat)
 |.sl _ es _=>(bB esz ag es).map fun cs=>(cs,es.length,[])
 |.str s=>if esz=1/\ag=false then some (s.map fun b => .int .u8 b.toNat,s.length,[]) else none
 |.rf k e off len _=>
  match h.get k with
  |some (e',.blk cs _ _ _ _)=>
   if e'=e/\off+len*esz<=cs.length/\bQ ((cs.drop off).take (len*esz)) then some ((cs.drop off).take (len*esz),len,[k]) else none
  |_=>none
 |_=>none
def l3:List AV->Option (List UInt8)
 |[]=>some []
 |.int .u8 n::r=>if 0<=n/\n<=255 then (l3 r).map (UInt8.ofNat n.toNat :: ·) else none
 |_=>none
def kJ(h:Hp)(k0 esz:Nat)(ag:Bool)(bytes:Nat)(base:AV)(src:List AV)(n:Nat)(rd:List Nat):Option (AV×Eff):=
 match base with
 |.sl nl es cl=>
  if n=0 then some (base,.pat rd [])
  else if (nl||cl)&&decide (es.length+n<=1073741824)&&decide (bytes<=65536) then
   match bB esz ag es with
   |some cs=>some (.rf k0 (h.next k0) 0 (es.length+n) (es.length+n),.pat (k0::rd) [⟨k0,h.next k0,.blk (cs++src) esz ag false false⟩])
   |none=>none
  else none
 |.rf k e off len cap=>
  match h.get k with
  |some (e',.blk cs esz' ag' ti fz)=>
   if e'=e/\esz'=esz/\ag'=ag/\off+len*esz<=cs.length then
    if n=0 then some (base,.pat (k::rd) [])
    else if len+n<=cap then
     if fz then none else some (.rf k e off (len+n) cap,.pat (k::rd) [⟨k,e,.blk (dK cs (off+len*esz) src) esz ag ti fz⟩])
    else if decide (len+n<=1073741824)&&decide (bytes<=65536) && !(k==k0) then
     if ti then some (.rf k0 (h.next k0) 0 (len+n) (len+n),.pat (k0::k::rd) [⟨k0,h.next k0,.blk ((cs.drop off).take (len*esz)++src) esz ag false false⟩])
     else if fz then none
     else some (.rf k0 (h.next k0) 0 (len+n) (len+n),.pat (k0::k::rd) [⟨k,e,.dead⟩,⟨k0,h.next k0,.blk ((cs.drop off).take (len*esz)++src) esz ag false false⟩])
    else if decide (len+n<=1073741824)&&decide (bytes<=65536) && !fz then
     some (.rf k0 (e+1) 0 (len+n) (len+n),.pat (k::rd) [⟨k0,e+1,.blk ((cs.drop off).take (len*esz)++src) esz ag false false⟩])
    else none
   else none
  |_=>none
 |_=>none
def gW(h:Hp)(esz:Nat)(x:AV)(lo hi mx:Option Int):Option (AV×Eff):=
 let l:=lo.getD 0
 match x with
 |.sl nl es cl=>
  let hh:=hi.getD es.length
  let m:=mx.getD hh
  if 0<=l/\l<=hh/\hh<=m/\m<=es.length/\(es.all fun v=>v.cells.length==esz) then
   val (.sl nl ((es.drop l.toNat).take (hh.toNat-l.toNat)) (if mx.isSome then m==hh else (nl||cl)&&hh==es.length))
  else none
 |.rf k e off len cap=>
  match h.get k with
  |some (e',.blk _ esz' _ ti _)=>
   let hh:=hi.getD len
   let m:=mx.getD cap
   if e'=e/\esz'=esz/\0<=l/\l<=hh/\hh<=m/\m<=cap/\(ti||mx.isNone)=true/\(l=0\/l<m\/ti=true) then
    some (.rf k e (if m=l then off else off+l.toNat*esz) (hh.toNat-l.toNat) (m.toNat-l.toNat),.pat [k] [])
   else if e'=e/\0<=l/\l=hh/\hh<=m/\m<=cap then some (.sl false [] false,.pat [k] [])
   else none
  |_=>none
 |_=>none
def gM(b:Bool):List AV->Option (Option Int×List AV)
 |[]=>if b then none else some (none,[])
 |.int k n::r=>if b then some (some n,r) else some (none,.int k n::r)
 |x::r=>if b then none else some (none,x::r)
def jL:List (AV×AV)->AV->Option (Option AV)
 |[],_=>some none
 |(k,v)::r,x=>
  match eq1 x k with
  |some true=>some (some v)
  |some false=>jL r x
  |none=>none
def iZ:List (AV×AV)->AV->AV->List (AV×AV)
 |[],x,v=>[(x,v)]
 |(k,u)::r,x,v=>match eq1 x k with|some true=>(x,v)::r|_=>(k,u)::iZ r x v
def PQ:Option AV->List Nat->Nat->List Nat
 |some _,bs,_=>bs
 |none,bs,ck=>bs++[ck]
def PN:Option AV->Nat->Nat
 |some _,ck=>ck
 |none,ck=>ck+1
def rG:List (AV×AV)->List Nat->AV->List Nat
 |(k,_)::r,b::bs,x=>match eq1 x k with|some true=>bs|_=>b::rG r bs x
 |_,bs,_=>bs
def qF:List (AV×AV)->List Nat->Nat->Option (AV×AV)
 |x::r,b::bs,s=>if b=s then some x else qF r bs s
 |_,_,_=>none
def nO:List (AV×AV)->AV->List (AV×AV)
 |[],_=>[]
 |(k,u)::r,x=>match eq1 x k with|some true=>r|_=>(k,u)::nO r x
def uZ:List (AV×AV)->List Nat->AV->Option Nat
 |(k,_)::r,b::bs,x=>match eq1 x k with|some true=>some b|_=>uZ r bs x
 |_,_,_=>none
def E3:List (AV×AV)->List Nat->Nat->AV->List (AV×AV)
 |(k,u)::r,b::bs,s,v=>if b=s then (k,v)::r else (k,u)::E3 r bs s v
 |l,_,_,_=>l
def AV.keyQ:Nat->AV->Bool
 |0,.int .. => true
 |1,.str _=>true
 |2,.bool _=>true
 |_,_=>false
def AV.key:AV->Bool
 |.int ..|.str _|.bool _=>true
 |_=>false
def min2:AV->AV->Option AV
 |.int k x,.int k' y=>if k=k' then some (.int k (if y<x then y else x)) else none
 |_,_=>none
def max2:AV->AV->Option AV
 |.int k x,.int k' y=>if k=k' then some (.int k (if x<y then y else x)) else none
 |_,_=>none
def lT(f:AV->AV->Option AV):AV->List AV->Option AV
 |x,[]=>some x
 |x,y::r=>match f x y with|some z=>lT f z r|none=>none
def bxA(q:Nat)(x y c:Int):AV:=
 match q with
 |0 => .tup [.int .u64 ((x+y+c) % 18446744073709551616),.int .u64 ((x+y+c) / 18446744073709551616)]
 |_ => .tup [.int .u64 ((x+18446744073709551616-y-c) % 18446744073709551616),.int .u64 (if x<y+c then 1 else 0)]
def op1(h:Hp)(k0:Nat)(o:K)(xs:List AV):Option (AV×Eff):=
 match o,xs with
 |.mov,[x]=>val x
 |.pick,[c,a,b]=>match c with|.bool t=>val (if t then a else b)|_=>none
 |.box,[v]=>if v.fits v.cells.length v.isAgg then nY h k0 (.blk v.cells v.cells.length v.isAgg true false) (fun e => .pt k0 e 0) else none
 |.alloc zero ag,[]=>nY h k0 (.blk zero zero.length ag true false) (fun e => .pt k0 e 0)
 |.build zero parts,vs=>(oD zero parts vs).bind fun cs=>val (.agg cs)
 |.mkSl esz ag own,vs=>
  if own then
   match bB esz ag vs with
   |some cs=>nY h k0 (.blk cs esz ag true false) (fun e => .rf k0 e 0 vs.length vs.length)
   |none=>none
  else if vs.all fun v=>v.fits esz ag then val (.sl false vs true) else none
 |.load sz ag,[p]=>match p with
  |.fp v=>if v.fits sz ag then val v else none
  |.pt k e off=>match h.get k with
   |some (e',.blk cs _ _ _ _)=>if e'=e then (fH cs off sz ag).map fun v=>(v,.pat [k] []) else none
   |_=>none
  |_=>none
 |.store sz ag,[p,v]=>match p with
  |.pt k e off=>match h.get k with
   |some (e',.blk cs esz ag' ti false)=>
    if e'=e/\off+sz<=cs.length/\v.fits sz ag/\bQ v.cells then
     some (.tup [],.pat [k] [⟨k,e,.blk (dK cs off v.cells) esz ag' ti false⟩])
    else none
   |_=>none
  |_=>none
 |.nilc,[x]=>match x with|.pt ..|.fp _=>val x|_=>none
 |.bin op,[x,y]=>(bin op x y).bind val
 |.eqn q ng,[x]=>match x.isNil q with|some b=>val (.bool (if ng then !b else b))|none=>none
 |.beq ng,[x,y]=>match x,y with
  |.bool a,.bool b=>val (.bool (if ng then !(a==b) else a==b))
  |_,_=>none
 |.eqs ng qs,[x,y]=>match x,y with
  |.agg cs,.agg ds=>match eqC qs cs ds with|some b=>val (.bool (if ng then !b else b))|none=>none
  |_,_=>none
 |.un op,[x]=>match op,x with
  |.neg,.int k n=>val (.int k (wr k (0-n)))
  |.not,.bool b=>val (.bool (!b))
  |_,_=>none
 |.cvi k,[x]=>match x with|.int _ n=>val (.int k (wr k n))|_=>none
 |.cvs,[x]=>match x with|.str s=>val (.str s)|_=>none
 |.s2b,[x]=>match x with|.str s=>val (.sl false (s.map fun b => .int .u8 b.toNat) false)|_=>none
 |.b2s,[x]=>match (match x with|.str _=>none|x=>aP h 1 false x) with
  |some (cs,_,rd)=>match l3 cs with
   |some bs=>some (.str bs,.pat rd [])
   |none=>none
  |none=>none
 |.fld off sz ag,[x]=>match x with|.agg cs=>(fH cs off sz ag).bind val|_=>none
 |.fad off sz ag,[p]=>match p with
  |.fp (.agg cs)=>(fH cs off sz ag).bind fun v=>if v.fits sz ag then val (.fp v) else none
  |.pt k e o=>val (.pt k e (o+off))
  |_=>none
 |.iad esz ag arr,[x,i]=>match i with
  |.int _ n=>match arr,x with
   |none,.sl _ es _=>if 0<=n then match es[n.toNat]? with
     |some v=>if v.fits esz ag then val (.fp v) else none
     |none=>none
    else none
   |none,.rf k e off len _=>if 0<=n/\n<len then val (.pt k e (off+n.toNat*esz)) else none
   |some len,.fp (.agg cs)=>if 0<=n/\n<len then (fH cs (n.toNat*esz) esz ag).bind fun v=>if v.fits esz ag then val (.fp v) else none else none
   |some len,.pt k e off=>if 0<=n/\n<len then val (.pt k e (off+n.toNat*esz)) else none
   |_,_=>none
  |_=>none
 |.ixs,[x,i]=>match x,i with
  |.str s,.int _ n=>if 0<=n then match s[n.toNat]? with|some b=>val (.int .u8 b.toNat)|none=>none else none
  |_,_=>none
 |.ixa len esz ag,[x,i]=>match x,i with
  |.agg cs,.int _ n=>if 0<=n/\n<len then (fH cs (n.toNat*esz) esz ag).bind val else none
  |_,_=>none
 |.slc esz lo hi mx,x::r=>
  match gM lo r with
  |some (l,r)=>match gM hi r with
   |some (hh,r)=>match gM mx r with
    |some (m,[])=>gW h esz x l hh m
    |_=>none
   |none=>none
  |none=>none
 |.sls lo hi,x::r=>match x with
  |.str s=>match gM lo r with
   |some (l,r)=>match gM hi r with
    |some (hh,[])=>
     let l:=l.getD 0
     let hh:=hh.getD s.length
     if 0<=l/\l<=hh/\hh<=s.length then val (.str ((s.drop l.toNat).take (hh.toNat-l.toNat))) else none
    |_=>none
   |none=>none
  |_=>none
 |.sla len esz lo hi,x::r=>match x with
  |.pt k e off=>match gM lo r with
   |some (l,r)=>match gM hi r with
    |some (hh,[])=>
     let l:=l.getD 0
     let hh:=hh.getD len
     match h.get k with
     |some (e',.blk cs esz' _ true _)=>
      if e'=e/\esz'=esz/\0<=l/\l<=hh/\hh<=len/\off+len*esz<=cs.length then
       some (.rf k e (if (len:Int)=l then off else off+l.toNat*esz) (hh.toNat-l.toNat) (len-l.toNat),.pat [k] [])
      else none
     |_=>none
    |_=>none
   |none=>none
  |_=>none
 |.mks esz ag bytes zero,[l,c]=>match l,c with
  |.int _ l,.int _ c=>
   if 0<=l/\l<=c/\c<=1073741824/\bytes<=65536/\zero.length=esz then
    nY h k0 (.blk (List.replicate c.toNat zero).flatten esz ag true false) (fun e => .rf k0 e 0 l.toNat c.toNat)
   else none
  |_,_=>none
 |.len 0,[x]=>match x with|.str s=>val (.int .i64 s.length)|_=>none
 |.len 1,[x]=>match x with
  |.sl _ es _=>val (.int .i64 es.length)
  |.rf _ _ _ len _=>val (.int .i64 len)
  |_=>none
 |.len 2,[x]=>match x with
  |.nilm=>val (.int .i64 0)
  |.mp k e=>match h.get k with
   |some (e',.mpo es _ _)=>if e'=e then some (.int .i64 es.length,.pat [k] []) else none
   |_=>none
  |_=>none
 |.lenc n,[_]=>val (.int .i64 n)
 |.cap,[x]=>match x with
  | .sl nl es cl=>if nl||cl then val (.int .i64 es.length) else none
  |.rf k e _ _ cap=>match h.get k with
   |some (e',.blk _ _ _ true _)=>if e'=e then some (.int .i64 cap,.pat [k] []) else none
   |_=>none
  |_=>none
 |.app esz ag bytes,[x,y]=>match aP h esz ag y with
  |some (cs,n,rd)=>kJ h k0 esz ag bytes x cs n rd
  |none=>none
 |.apz esz ag bytes zero,[x,y]=>match y with
  |.int _ n=>if 0<=n/\n<=1073741824/\bytes<=65536/\zero.length=esz/\bQ zero then
    kJ h k0 esz ag bytes x (List.replicate n.toNat zero).flatten n.toNat [] else none
  |_=>none
 |.cpy esz ag,[x,y]=>match x with
  |.rf k e off len _=>match h.get k,aP h esz ag y with
   |some (e',.blk cs esz' ag' ti false),some (new,n,rd)=>
    if e'=e/\off+len*esz<=cs.length then
     some (.int .i64 (min n len:Nat),.pat (k::rd) [⟨k,e,.blk (dK cs off (new.take (min n len*esz))) esz' ag' ti false⟩])
    else none
   |_,_=>none
  |_=>none
 |.clr esz zero,[x]=>match x with
  |.sl _ [] _=>val (.tup [])
  |.rf k e off len _=>match h.get k with
   |some (e',.blk cs esz' ag' ti false)=>
    if e'=e/\off+len*esz<=cs.length/\zero.length=esz/\bQ zero then
     some (.tup [],.pat [k] [⟨k,e,.blk (dK cs off (List.replicate len zero).flatten) esz' ag' ti false⟩])
    else none
   |_=>none
  |_=>none
 |.mn,x::r=>(lT min2 x r).bind val
 |.mx,x::r=>(lT max2 x r).bind val
 |.ext i,[x]=>match x with|.tup vs=>(vs[i]?).bind val|_=>none
 |.mki,[x]=>if x.fits x.cells.length x.isAgg then val (.ifc x) else none
 |.mkf f,cs=>val (.fn f cs)
 |.mkm,[]=>nY h k0 (.mpo [] [] 0) (fun e => .mp k0 e)
 |.mlk q zero ok,[m,x]=>match m with
  |.nilm=>if x.keyQ q then val (if ok then .tup [zero,.bool false] else zero) else none
  |.mp k e=>match h.get k with
   |some (e',.mpo es _ _)=>if e'=e/\x.keyQ q then match jL es x with
     |some (some v)=>some (if ok then .tup [v,.bool true] else v,.pat [k] [])
     |some none=>some (if ok then .tup [zero,.bool false] else zero,.pat [k] [])
     |none=>none
    else none
   |_=>none
  |_=>none
 |.mup q,[m,x,v]=>match m with
  |.mp k e=>match h.get k with
   |some (e',.mpo es bs ck)=>if e'=e/\x.keyQ q/\v.fits v.cells.length v.isAgg then match jL es x with
     |some u=>some (.tup [],.pat [k] [⟨k,e,.mpo (iZ es x v) (PQ u bs ck) (PN u ck)⟩])
     |none=>none
    else none
   |_=>none
  |_=>none
 |.mdel q,[m,x]=>match m with
  |.nilm=>if x.keyQ q then val (.tup []) else none
  |.mp k e=>match h.get k with
   |some (e',.mpo es bs ck)=>if e'=e/\x.keyQ q then match jL es x with
     |some _=>some (.tup [],.pat [k] [⟨k,e,.mpo (nO es x) (rG es bs x) ck⟩])
     |none=>none
    else none
   |_=>none
  |_=>none
 |.men q zero,[m,x]=>match m with
  |.mp k e=>match h.get k with
   |some (e',.mpo es bs ck)=>if e'=e/\x.keyQ q/\zero.fits zero.cells.length zero.isAgg then match jL es x with
     |some (some v)=>match uZ es bs x with
      |some b=>some (.tup [v,.int .i64 b],.pat [k] [⟨k,e,.mpo (iZ es x v) bs ck⟩])
      |none=>none
     |some none=>some (.tup [zero,.int .i64 ck],.pat [k] [⟨k,e,.mpo (iZ es x zero) (bs++[ck]) (ck+1)⟩])
     |none=>none
    else none
   |_=>none
  |_=>none
 |.mes,[m,s,x]=>match m with
  |.mp k e=>match s with
   |.int _ n=>match h.get k with
    |some (e',.mpo es bs ck)=>if e'=e/\x.fits x.cells.length x.isAgg/\0<=n then match qF es bs n.toNat with
      |some _=>some (.tup [],.pat [k] [⟨k,e,.mpo (E3 es bs n.toNat x) bs ck⟩])
      |none=>none
     else none
    |_=>none
   |_=>none
  |_=>none
 |.bx q,[x,y,c]=>match x,y,c with
  |.int .u64 x,.int .u64 y,.int .u64 c=>if 0<=x/\0<=y/\0<=c/\c<=1/\y<=18446744073709551615 then val (bxA q x y c) else none
  |_,_,_=>none
 |.rng,[m]=>match m with
  |.mp k e=>match h.get k with
   |some (e',.mpo _ _ ck)=>if e'=e then some (.pt k0 (h.next k0) 0,.pat [k0,k] [⟨k0,h.next k0,.itr k e ck [] ck⟩]) else none
   |_=>none
  |_=>none
 |.ent,[x]=>match x with
  |.pt k e off=>match h.get k with
   |some (e',.itr mk me _ seen last)=>if e'=e/\off=0 then match seen.getLast?,h.get mk with
     |some s,some (e2,.mpo es bs ck)=>if e2=me/\ck=last then match qF es bs s with
       |some (a,v)=>some (.tup [a,v],.pat [k,mk] [])
       |none=>none
      else none
     |_,_=>none
    else none
   |_=>none
  |_=>none
 |.mkZ esz ag,vs=>match cE (snap depth h) vs with
  |some (ts,keys)=>if ts.all fun v=>v.fits esz ag then some (.sl false ts true,.pat keys (cC h keys)) else none
  |none=>none
 |.frz,vs=>match cE (snap depth h) vs with
  |some ([t],keys)=>some (t,.pat keys (cC h keys))
  |_=>none
 |_,_=>none
def eqS:List UInt8->List UInt8->Bool
 |[],[]=>true
 |x::r,y::s=>bif x.toNat.beq y.toNat then eqS r s else false
 |_,_=>false
theorem B2:∀(a b:List UInt8),eqS a b=decide (a=b)
 |[],[]=>by simp[eqS]
 |[],_::_=>by simp[eqS]
 |_::_,[]=>by simp[eqS]
 |x::r,y::s=>by
  simp only[eqS,cond_eq_ite,Nat.beq_eq,B2 r s]
  by_cases h:x=y
  ·subst h;simp
  ·have:x.toNat≠y.toNat:=fun q=>h (UInt8.toNat_inj.1 q)
   rw[if_neg this]
   simp[h]
def MY(op:BinOp)(x y:AV):Option AV:=
 match x,y with
 |.str a,.str b=>
  match op with
  |.eql=>some (.bool (eqS a b))
  |.neq=>some (.bool (!eqS a b))
  |_=>MX op a b
 |x,y=>bin op x y
theorem OT(op:BinOp)(x y:AV):MY op x y=bin op x y:=by
 cases x<;>cases y<;>first
  |rfl
  |(cases op<;>first|rfl|simp only[MY,bin,MX,B2])
def LQ(xs:List AV):Option (AV×Eff):=
 match xs with
 |[x]=>val x
 |_=>none
def RN(xs:List AV):Option (AV×Eff):=
 match xs with
 |[c,a,b]=>match c with|.bool t=>val (if t then a else b)|_=>none
 |_=>none
def jH(h:Hp)(k0:Nat)(xs:List AV):Option (AV×Eff):=
 match xs with
 |[v]=>if v.fits v.cells.length v.isAgg then nY h k0 (.blk v.cells v.cells.length v.isAgg true false) (fun e => .pt k0 e 0) else none
 |_=>none
def B1(h:Hp)(k0:Nat)(zero:List AV)(ag:Bool)(xs:List AV):Option (AV×Eff):=
 match xs with
 |[]=>nY h k0 (.blk zero zero.length ag true false) (fun e => .pt k0 e 0)
 |_=>none
def BZ(zero:List AV)(parts:List (Nat×Nat))(xs:List AV):Option (AV×Eff):=
 match xs with
 |vs=>(oD zero parts vs).bind fun cs=>val (.agg cs)
def FX(h:Hp)(k0:Nat)(esz:Nat)(ag:Bool)(own:Bool)(xs:List AV):Option (AV×Eff):=
 match xs with
 |vs=>
  if own then
   match bB esz ag vs with
   |some cs=>nY h k0 (.blk cs esz ag true false) (fun e => .rf k0 e 0 vs.length vs.length)
   |none=>none
  else if vs.all fun v=>v.fits esz ag then val (.sl false vs true) else none
def FY(h:Hp)(sz:Nat)(ag:Bool)(xs:List AV):Option (AV×Eff):=
 match xs with
 |[p]=>match p with
  |.fp v=>if v.fits sz ag then val v else none
  |.pt k e off=>match h.get k with
   |some (e',.blk cs _ _ _ _)=>if e'=e then (fH cs off sz ag).map fun v=>(v,.pat [k] []) else none
   |_=>none
  |_=>none
 |_=>none
def BX(h:Hp)(sz:Nat)(ag:Bool)(xs:List AV):Option (AV×Eff):=
 match xs with
 |[p,v]=>match p with
  |.pt k e off=>match h.get k with
   |some (e',.blk cs esz ag' ti false)=>
    if e'=e/\off+sz<=cs.length/\v.fits sz ag/\bQ v.cells then
     some (.tup [],.pat [k] [⟨k,e,.blk (dK cs off v.cells) esz ag' ti false⟩])
    else none
   |_=>none
  |_=>none
 |_=>none
def FV(xs:List AV):Option (AV×Eff):=
 match xs with
 |[x]=>match x with|.pt ..|.fp _=>val x|_=>none
 |_=>none
def HE(op:BinOp)(xs:List AV):Option (AV×Eff):=
 match xs with
 |[x,y]=>(MY op x y).bind val
 |_=>none
def L4(ng:Bool)(xs:List AV):Option (AV×Eff):=
 match xs with
 |[x,y]=>match x,y with
  |.bool a,.bool b=>val (.bool (if ng then !(a==b) else a==b))
  |_,_=>none
 |_=>none
def LX(q:Nat)(ng:Bool)(xs:List AV):Option (AV×Eff):=
 match xs with
 |[x]=>match x.isNil q with|some b=>val (.bool (if ng then !b else b))|none=>none
 |_=>none
def yA(ng:Bool)(qs:List Nat)(xs:List AV):Option (AV×Eff):=
 match xs with
 |[x,y]=>match x,y with
  |.agg cs,.agg ds=>match eqC qs cs ds with|some b=>val (.bool (if ng then !b else b))|none=>none
  |_,_=>none
 |_=>none
def RM(op:UnOp)(xs:List AV):Option (AV×Eff):=
 match xs with
 |[x]=>match op,x with
  |.neg,.int k n=>val (.int k (wr k (0-n)))
  |.not,.bool b=>val (.bool (!b))
  |_,_=>none
 |_=>none
def LZ(k:IntKind)(xs:List AV):Option (AV×Eff):=
 match xs with
 |[x]=>match x with|.int _ n=>val (.int k (wr k n))|_=>none
 |_=>none
def LY(xs:List AV):Option (AV×Eff):=
 match xs with
 |[x]=>match x with|.str s=>val (.str s)|_=>none
 |_=>none
def LP(xs:List AV):Option (AV×Eff):=
 match xs with
 |[x]=>match x with|.str s=>val (.sl false (s.map fun b => .int .u8 b.toNat) false)|_=>none
 |_=>none
def DS(h:Hp)(xs:List AV):Option (AV×Eff):=
 match xs with
 |[x]=>match (match x with|.str _=>none|x=>aP h 1 false x) with
  |some (cs,_,rd)=>match l3 cs with
   |some bs=>some (.str bs,.pat rd [])
   |none=>none
  |none=>none
 |_=>none
def jF(off:Nat)(sz:Nat)(ag:Bool)(xs:List AV):Option (AV×Eff):=
 match xs with
 |[x]=>match x with|.agg cs=>(fH cs off sz ag).bind val|_=>none
 |_=>none
def jG(off:Nat)(sz:Nat)(ag:Bool)(xs:List AV):Option (AV×Eff):=
 match xs with
 |[p]=>match p with
  |.fp (.agg cs)=>(fH cs off sz ag).bind fun v=>if v.fits sz ag then val (.fp v) else none
  |.pt k e o=>val (.pt k e (o+off))
  |_=>none
 |_=>none
def LW(esz:Nat)(ag:Bool)(arr:Option Nat)(xs:List AV):Option (AV×Eff):=
 match xs with
 |[x,i]=>match i with
  |.int _ n=>match arr,x with
   |none,.sl _ es _=>if 0<=n then match es[n.toNat]? with
     |some v=>if v.fits esz ag then val (.fp v) else none
     |none=>none
    else none
   |none,.rf k e off len _=>if 0<=n/\n<len then val (.pt k e (off+n.toNat*esz)) else none
   |some len,.fp (.agg cs)=>if 0<=n/\n<len then (fH cs (n.toNat*esz) esz ag).bind fun v=>if v.fits esz ag then val (.fp v) else none else none
   |some len,.pt k e off=>if 0<=n/\n<len then val (.pt k e (off+n.toNat*esz)) else none
   |_,_=>none
  |_=>none
 |_=>none
def LU(xs:List AV):Option (AV×Eff):=
 match xs with
 |[x,i]=>match x,i with
  |.str s,.int _ n=>if 0<=n then match s[n.toNat]? with|some b=>val (.int .u8 b.toNat)|none=>none else none
  |_,_=>none
 |_=>none
def LV(len:Nat)(esz:Nat)(ag:Bool)(xs:List AV):Option (AV×Eff):=
 match xs with
 |[x,i]=>match x,i with
  |.agg cs,.int _ n=>if 0<=n/\n<len then (fH cs (n.toNat*esz) esz ag).bind val else none
  |_,_=>none
 |_=>none
def gD(h:Hp)(esz:Nat)(lo:Bool)(hi:Bool)(mx:Bool)(xs:List AV):Option (AV×Eff):=
 match xs with
 |x::r=>
  match gM lo r with
  |some (l,r)=>match gM hi r with
   |some (hh,r)=>match gM mx r with
    |some (m,[])=>gW h esz x l hh m
    |_=>none
   |none=>none
  |none=>none
 |_=>none
def qH(lo:Bool)(hi:Bool)(xs:List AV):Option (AV×Eff):=
 match xs with
 |x::r=>match x with
  |.str s=>match gM lo r with
   |some (l,r)=>match gM hi r with
    |some (hh,[])=>
     let l:=l.getD 0
     let hh:=hh.getD s.length
     if 0<=l/\l<=hh/\hh<=s.length then val (.str ((s.drop l.toNat).take (hh.toNat-l.toNat))) else none
    |_=>none
   |none=>none
  |_=>none
 |_=>none
def LO(h:Hp)(len:Nat)(esz:Nat)(lo:Bool)(hi:Bool)(xs:List AV):Option (AV×Eff):=
 match xs with
 |x::r=>match x with
  |.pt k e off=>match gM lo r with
   |some (l,r)=>match gM hi r with
    |some (hh,[])=>
     let l:=l.getD 0
     let hh:=hh.getD len
     match h.get k with
     |some (e',.blk cs esz' _ true _)=>
      if e'=e/\esz'=esz/\0<=l/\l<=hh/\hh<=len/\off+len*esz<=cs.length then
       some (.rf k e (if (len:Int)=l then off else off+l.toNat*esz) (hh.toNat-l.toNat) (len-l.toNat),.pat [k] [])
      else none
     |_=>none
    |_=>none
   |none=>none
  |_=>none
 |_=>none
def LR(h:Hp)(k0:Nat)(esz:Nat)(ag:Bool)(bytes:Nat)(zero:List AV)(xs:List AV):Option (AV×Eff):=
 match xs with
 |[l,c]=>match l,c with
  |.int _ l,.int _ c=>
   if 0<=l/\l<=c/\c<=1073741824/\bytes<=65536/\zero.length=esz then
    nY h k0 (.blk (List.replicate c.toNat zero).flatten esz ag true false) (fun e => .rf k0 e 0 l.toNat c.toNat)
   else none
  |_,_=>none
 |_=>none
def DQ(h:Hp)(q:Nat)(xs:List AV):Option (AV×Eff):=
 match q,xs with
 |0,[x]=>match x with|.str s=>val (.int .i64 s.length)|_=>none
 |1,[x]=>match x with
  |.sl _ es _=>val (.int .i64 es.length)
  |.rf _ _ _ len _=>val (.int .i64 len)
  |_=>none
 |2,[x]=>match x with
  |.nilm=>val (.int .i64 0)
  |.mp k e=>match h.get k with
   |some (e',.mpo es _ _)=>if e'=e then some (.int .i64 es.length,.pat [k] []) else none
   |_=>none
  |_=>none
 |_,_=>none
def FZ(n:Nat)(xs:List AV):Option (AV×Eff):=
 match xs with
 |[_]=>val (.int .i64 n)
 |_=>none
def L3(h:Hp)(xs:List AV):Option (AV×Eff):=
 match xs with
 |[x]=>match x with
  | .sl nl es cl=>if nl||cl then val (.int .i64 es.length) else none
  |.rf k e _ _ cap=>match h.get k with
   |some (e',.blk _ _ _ true _)=>if e'=e then some (.int .i64 cap,.pat [k] []) else none
   |_=>none
  |_=>none
 |_=>none
def lU(h:Hp)(k0:Nat)(esz:Nat)(ag:Bool)(bytes:Nat)(xs:List AV):Option (AV×Eff):=
 match xs with
 |[x,y]=>match aP h esz ag y with
  |some (cs,n,rd)=>kJ h k0 esz ag bytes x cs n rd
  |none=>none
 |_=>none
def PM(h:Hp)(k0:Nat)(esz:Nat)(ag:Bool)(bytes:Nat)(zero:List AV)(xs:List AV):Option (AV×Eff):=
 match xs with
 |[x,y]=>match y with
  |.int _ n=>if 0<=n/\n<=1073741824/\bytes<=65536/\zero.length=esz/\bQ zero then
    kJ h k0 esz ag bytes x (List.replicate n.toNat zero).flatten n.toNat [] else none
  |_=>none
 |_=>none
def DR(h:Hp)(esz:Nat)(ag:Bool)(xs:List AV):Option (AV×Eff):=
 match xs with
 |[x,y]=>match x with
  |.rf k e off len _=>match h.get k,aP h esz ag y with
   |some (e',.blk cs esz' ag' ti false),some (new,n,rd)=>
    if e'=e/\off+len*esz<=cs.length then
     some (.int .i64 (min n len:Nat),.pat (k::rd) [⟨k,e,.blk (dK cs off (new.take (min n len*esz))) esz' ag' ti false⟩])
    else none
   |_,_=>none
  |_=>none
 |_=>none
def VA(h:Hp)(esz:Nat)(zero:List AV)(xs:List AV):Option (AV×Eff):=
 match xs with
 |[x]=>match x with
  |.sl _ [] _=>val (.tup [])
  |.rf k e off len _=>match h.get k with
   |some (e',.blk cs esz' ag' ti false)=>
    if e'=e/\off+len*esz<=cs.length/\zero.length=esz/\bQ zero then
     some (.tup [],.pat [k] [⟨k,e,.blk (dK cs off (List.replicate len zero).flatten) esz' ag' ti false⟩])
    else none
   |_=>none
  |_=>none
 |_=>none
def RP(xs:List AV):Option (AV×Eff):=
 match xs with
 |x::r=>(lT min2 x r).bind val
 |_=>none
def RO(xs:List AV):Option (AV×Eff):=
 match xs with
 |x::r=>(lT max2 x r).bind val
 |_=>none
def HD(i:Nat)(xs:List AV):Option (AV×Eff):=
 match xs with
 |[x]=>match x with|.tup vs=>(vs[i]?).bind val|_=>none
 |_=>none
def LS(xs:List AV):Option (AV×Eff):=
 match xs with
 |[x]=>if x.fits x.cells.length x.isAgg then val (.ifc x) else none
 |_=>none
def LT(f:Nat)(xs:List AV):Option (AV×Eff):=
 match xs with
 |cs=>val (.fn f cs)
def U4(h:Hp)(k0:Nat)(xs:List AV):Option (AV×Eff):=
 match xs with
 |[]=>nY h k0 (.mpo [] [] 0) (fun e => .mp k0 e)
 |_=>none
def U3(h:Hp)(q:Nat)(zero:AV)(ok:Bool)(xs:List AV):Option (AV×Eff):=
 match xs with
 |[m,x]=>match m with
  |.nilm=>if x.keyQ q then val (if ok then .tup [zero,.bool false] else zero) else none
  |.mp k e=>match h.get k with
   |some (e',.mpo es _ _)=>if e'=e/\x.keyQ q then match jL es x with
     |some (some v)=>some (if ok then .tup [v,.bool true] else v,.pat [k] [])
     |some none=>some (if ok then .tup [zero,.bool false] else zero,.pat [k] [])
     |none=>none
    else none
   |_=>none
  |_=>none
 |_=>none
def U2(h:Hp)(q:Nat)(xs:List AV):Option (AV×Eff):=
 match xs with
 |[m,x,v]=>match m with
  |.mp k e=>match h.get k with
   |some (e',.mpo es bs ck)=>if e'=e/\x.keyQ q/\v.fits v.cells.length v.isAgg then match jL es x with
     |some u=>some (.tup [],.pat [k] [⟨k,e,.mpo (iZ es x v) (PQ u bs ck) (PN u ck)⟩])
     |none=>none
    else none
   |_=>none
  |_=>none
 |_=>none
def RQ(h:Hp)(q:Nat)(xs:List AV):Option (AV×Eff):=
 match xs with
 |[m,x]=>match m with
  |.nilm=>if x.keyQ q then val (.tup []) else none
  |.mp k e=>match h.get k with
   |some (e',.mpo es bs ck)=>if e'=e/\x.keyQ q then match jL es x with
     |some _=>some (.tup [],.pat [k] [⟨k,e,.mpo (nO es x) (rG es bs x) ck⟩])
     |none=>none
    else none
   |_=>none
  |_=>none
 |_=>none
def U7(h:Hp)(q:Nat)(zero:AV)(xs:List AV):Option (AV×Eff):=
 match xs with
 |[m,x]=>match m with
  |.mp k e=>match h.get k with
   |some (e',.mpo es bs ck)=>if e'=e/\x.keyQ q/\zero.fits zero.cells.length zero.isAgg then match jL es x with
     |some (some v)=>match uZ es bs x with
      |some b=>some (.tup [v,.int .i64 b],.pat [k] [⟨k,e,.mpo (iZ es x v) bs ck⟩])
      |none=>none
     |some none=>some (.tup [zero,.int .i64 ck],.pat [k] [⟨k,e,.mpo (iZ es x zero) (bs++[ck]) (ck+1)⟩])
     |none=>none
    else none
   |_=>none
  |_=>none
 |_=>none
def U6(h:Hp)(xs:List AV):Option (AV×Eff):=
 match xs with
 |[m,s,x]=>match m with
  |.mp k e=>match s with
   |.int _ n=>match h.get k with
    |some (e',.mpo es bs ck)=>if e'=e/\x.fits x.cells.length x.isAgg/\0<=n then match qF es bs n.toNat with
      |some _=>some (.tup [],.pat [k] [⟨k,e,.mpo (E3 es bs n.toNat x) bs ck⟩])
      |none=>none
     else none
    |_=>none
   |_=>none
  |_=>none
 |_=>none
def aBB(q:Nat)(xs:List AV):Option (AV×Eff):=
 match xs with
 |[x,y,c]=>match x,y,c with
  |.int .u64 x,.int .u64 y,.int .u64 c=>if 0<=x/\0<=y/\0<=c/\c<=1/\y<=18446744073709551615 then val (bxA q x y c) else none
  |_,_,_=>none
 |_=>none
def U1(h:Hp)(k0:Nat)(xs:List AV):Option (AV×Eff):=
 match xs with
 |[m]=>match m with
  |.mp k e=>match h.get k with
   |some (e',.mpo _ _ ck)=>if e'=e then some (.pt k0 (h.next k0) 0,.pat [k0,k] [⟨k0,h.next k0,.itr k e ck [] ck⟩]) else none
   |_=>none
  |_=>none
 |_=>none
def U9(h:Hp)(xs:List AV):Option (AV×Eff):=
 match xs with
 |[x]=>match x with
  |.pt k e off=>match h.get k with
   |some (e',.itr mk me _ seen last)=>if e'=e/\off=0 then match seen.getLast?,h.get mk with
     |some s,some (e2,.mpo es bs ck)=>if e2=me/\ck=last then match qF es bs s with
       |some (a,v)=>some (.tup [a,v],.pat [k,mk] [])
       |none=>none
      else none
     |_,_=>none
    else none
   |_=>none
  |_=>none
 |_=>none
def U5(h:Hp)(esz:Nat)(ag:Bool)(vs:List AV):Option (AV×Eff):=
 match cE (snap depth h) vs with
 |some (ts,keys)=>if ts.all fun v=>v.fits esz ag then some (.sl false ts true,.pat keys (cC h keys)) else none
 |none=>none
def U8(h:Hp)(vs:List AV):Option (AV×Eff):=
 match cE (snap depth h) vs with
 |some ([t],keys)=>some (t,.pat keys (cC h keys))
 |_=>none
def FE(h:Hp)(k0:Nat)(o:K)(xs:List AV):Option (AV×Eff):=
 match o with
 |.mov=>LQ xs
 |.pick=>RN xs
 |.box=>jH h k0 xs
 |.alloc zero ag=>B1 h k0 zero ag xs
 |.build zero parts=>BZ zero parts xs
 |.mkSl esz ag own=>FX h k0 esz ag own xs
 |.load sz ag=>FY h sz ag xs
 |.store sz ag=>BX h sz ag xs
 |.nilc=>FV xs
 |.bin op=>HE op xs
 |.beq ng=>L4 ng xs
 |.eqn q ng=>LX q ng xs
 |.eqs ng qs=>yA ng qs xs
 |.un op=>RM op xs
 |.cvi k=>LZ k xs
 |.cvs=>LY xs
 |.s2b=>LP xs
 |.b2s=>DS h xs
 |.fld off sz ag=>jF off sz ag xs
 |.fad off sz ag=>jG off sz ag xs
 |.iad esz ag arr=>LW esz ag arr xs
 |.ixs=>LU xs
 |.ixa len esz ag=>LV len esz ag xs
 |.slc esz lo hi mx=>gD h esz lo hi mx xs
 |.sls lo hi=>qH lo hi xs
 |.sla len esz lo hi=>LO h len esz lo hi xs
 |.mks esz ag bytes zero=>LR h k0 esz ag bytes zero xs
 |.len q=>DQ h q xs
 |.lenc n=>FZ n xs
 |.cap=>L3 h xs
 |.app esz ag bytes=>lU h k0 esz ag bytes xs
 |.apz esz ag bytes zero=>PM h k0 esz ag bytes zero xs
 |.cpy esz ag=>DR h esz ag xs
 |.clr esz zero=>VA h esz zero xs
 |.mn=>RP xs
 |.mx=>RO xs
 |.ext i=>HD i xs
 |.mki=>LS xs
 |.mkf f=>LT f xs
 |.call _ _ _=>none
 |.callv _ _=>none
 |.mkm=>U4 h k0 xs
 |.mlk q zero ok=>U3 h q zero ok xs
 |.mup q=>U2 h q xs
 |.mdel q=>RQ h q xs
 |.men q zero=>U7 h q zero xs
 |.mes=>U6 h xs
 |.bx q=>aBB q xs
 |.rng=>U1 h k0 xs
 |.ent=>U9 h xs
 |.mkZ esz ag=>U5 h esz ag xs
 |.frz=>U8 h xs
 |.calle _=>none
 |.callr _=>none
 |.bad=>none
theorem BN(h:Hp)(k0:Nat)(o:K)(xs:List AV):FE h k0 o xs=op1 h k0 o xs:=by
 cases o with
 |bin op=>
  rcases xs with _|⟨x,_|⟨y,_|⟨z,r⟩⟩⟩
  ·rfl
  ·rfl
  ·show (MY op x y).bind val=(bin op x y).bind val
   rw[OT]
  ·rfl
 |len q=>rcases q with _|_|_|q<;>rcases xs with _|⟨x,_|⟨y,r⟩⟩<;>rfl
 |_=>first
  |rfl
  |(rcases xs with _|⟨x,_|⟨y,_|⟨z,_|⟨u,r⟩⟩⟩⟩<;>rfl)
structure CF where
 np:Nat
 nt:Nat
 res:List (Sum Nat (Nat×Nat×Bool))
 body:C
 deriving Inhabited
structure Pg where
 fs:Nat->Option CF
 gl:Nat->Option AV
 ex:Nat->Option (List AV->Nat->Hp->Option (AV×Hp)):=fun _=>none
def gC(env:List AV)(t:Nat):AV:=(env[t]?).getD .top
def X.ev(gl:Nat->Option AV)(env:List AV):X->AV
 |.t n=>gC env n
 |.c v=>v
 |.g n=>match gl n with|some v => .fp v|none => .top
 |.f n => .fn n []
structure St where
 env:List AV
 hp:Hp
inductive Ex where
 |nor
 |ext (id:Nat)
 |ret
 deriving DecidableEq
structure aZ where
 fn:Nat->List AV->Nat->Hp->Option (AV×Hp)
 yl:Nat->Nat->List AV->Hp->Option (AV×Hp)
instance:CoeFun aZ (fun _=>Nat->List AV->Nat->Hp->Option (AV×Hp)):=⟨aZ.fn⟩
def bW(call:aZ)(f:Nat)(ts:List AV):Option AV:=
 match call f ts 0 [] with
 |some (r,h)=>conv h r
 |none=>none
def jT(kb s:Nat)(vs:List AV):Nat:=
 if vs.any (fun v=>match v with|.rf k _ _ _ _=>decide ((kb+s+1)*65536<=k)&&decide (k<(kb+s+1)*65536+32768)|_=>false) then (kb+s+1)*65536+32768 else (kb+s+1)*65536
def lW(call:aZ)(kb s:Nat)(h:Hp)(f:Nat)(th im:Bool)(vs:List AV):Option (AV×Eff):=
 match (if im then none else cE (snap depth h) vs) with
 |some (ts,keys)=>
  match bW call f ts with
  |some r=>
   match fG h (kb+s) th r with
   |some (v,pa)=>some (v,.pat ((kb+s)::keys) ((if r.flat then [] else cC h keys)++pa))
   |none=>none
  |none=>none
 |none=>
  match call f vs (jT kb s vs) h with
  |some (r,h')=>some (r,.whole h')
  |none=>none
mutual
def eqA:AV->AV->Bool
 |.top,.top=>true
 |.bool a,.bool b=>a==b
 |.int k a,.int k' b=>decide (k=k')&&decide (a=b)
 |.str a,.str b=>eqS a b
 |.nilp,.nilp|.nilm,.nilm|.nilf,.nilf|.nili,.nili=>true
 |.agg a,.agg b=>tF a b
 |.tup a,.tup b=>tF a b
 |.sl n a c,.sl n' b c'=>(n==n')&&tF a b&&(c==c')
 |.fp a,.fp b=>eqA a b
 |.rf k e o l c,.rf k' e' o' l' c'=>(k==k')&&(e==e')&&(o==o')&&(l==l')&&(c==c')
 |.pt k e o,.pt k' e' o'=>(k==k')&&(e==e')&&(o==o')
 |.mp k e,.mp k' e'=>(k==k')&&(e==e')
 |.yl k e,.yl k' e'=>(k==k')&&(e==e')
 |.fn f a,.fn g b=>(f==g)&&tF a b
 |.ifc a,.ifc b=>eqA a b
 |_,_=>false
def tF:List AV->List AV->Bool
 |[],[]=>true
 |x::r,y::s=>eqA x y&&tF r s
 |_,_=>false
end
def I3:List (AV×AV)->List (AV×AV)->Bool
 |[],[]=>true
 |x::r,y::s=>eqA x.1 y.1&&eqA x.2 y.2&&I3 r s
 |_,_=>false
def OK:Ob->Ob->Bool
 |.blk a n b c d,.blk a' n' b' c' d'=>tF a a'&&(n==n')&&(b==b')&&(c==c')&&(d==d')
 |.mpo a s n,.mpo b s' n'=>I3 a b&&(s==s')&&(n==n')
 |.itr a b c s l,.itr a' b' c' s' l'=>(a==a')&&(b==b')&&(c==c')&&(s==s')&&(l==l')
 |.dead,.dead=>true
 |_,_=>false
def DW:Option (Nat×Ob)->Option (Nat×Ob)->Bool
 |none,none=>true
 |some x,some y=>(x.1==y.1)&&OK x.2 y.2
 |_,_=>false
def rX:Hp->Bool
 |[]=>true
 |x::r=>(r.all fun y => !(y.k==x.k))&&rX r
def nL(call:aZ)(h:Hp)(f:Nat)(vs:List AV):Nat->Nat->Option (AV×List Nat×List Ent)
 |0,_=>none
 |n+1,b=>
  match call f vs b [] with
  |some (r,h0)=>
   if rX h0&&(h0.all fun x=>(h.get x.k).isNone) then some (r,h0.map (·.k),h0)
   else match nL call h f vs n (b+4096) with
    |some (r',rd,pa)=>some (r',h0.map (·.k)++rd,pa)
    |none=>none
  |none=>none
def lS(call:aZ)(kb s:Nat)(h:Hp)(f:Nat)(vs:List AV):Option (AV×Eff):=
 if treeL vs then
  match nL call h f vs 7 ((kb+s+1)*65536) with
  |some (r,rd,pa)=>some (r,.pat rd pa)
  |none=>none
 else none
def mQ(call:aZ)(kb s:Nat)(h:Hp)(f:Nat)(vs:List AV):Option (AV×Eff):=
 match call f vs (jT kb s vs) h with
 |some (r,h')=>
  let pa:=h'.filter fun x=>(h.get x.k).isNone
  if (h++h').all fun x=>DW ((cF h pa).get x.k) (h'.get x.k) then some (r,.all pa) else none
 |none=>none
def opR(call:aZ)(kb:Nat)(r:R)(h:Hp)(vs:List AV):Option (AV×Eff):=
 match r.k with
 |.call f th im=>lW call kb r.s h f th im vs
 |.calle f=>lS call kb r.s h f vs
 |.callr f=>mQ call kb r.s h f vs
 |.callv th im=>
  match vs with
  |.fn f cs::args=>lW call kb r.s h f th im (args++cs)
  |.yl k e::args=>
   match call.yl k e args h with
   |some (v,h')=>some (v,.whole h')
   |none=>none
  |_=>none
 |k=>FE h (kb+r.s) k vs
def dS(env:List AV)(d:Option Nat)(v:AV):List AV:=
 match d with
 |some d=>env.set d v
 |none=>env
def wanted(env:List AV):Option (Nat×Bool)->Option Bool
 |none=>some true
 |some (t,b)=>
  match gC env t with
  |.bool c=>some (c==b)
  |.tup []=>some false
  |_=>none
def i8(gl:Nat->Option AV)(call:aZ)(kb:Nat)(r:R)(st:St):Option (St×Eff):=
 match wanted st.env r.gd with
 |none=>none
 |some false=>some (⟨dS st.env r.d (.tup []),st.hp⟩,.pat [] [])
 |some true=>
  match opR call kb r st.hp (r.xs.map (X.ev gl st.env)) with
  |some (v,eff)=>some (⟨dS st.env r.d v,eff.app st.hp⟩,eff)
  |none=>none
def oN(gl:Nat->Option AV)(call:aZ)(kb:Nat):List R->St->Option St
 |[],st=>some st
 |r::rs,st=>
  match i8 gl call kb r st with
  |some (st',_)=>oN gl call kb rs st'
  |none=>none
def jB(gl:Nat->Option AV)(call:aZ)(kb:Nat):List R->St->Option (St×List Eff)
 |[],st=>some (st,[])
 |r::rs,st=>
  match i8 gl call kb r st with
  |some (st',e)=>(jB gl call kb rs st').map fun(s,l)=>(s,e::l)
  |none=>none
def X.tmp:X->Option Nat
 |.t n=>some n
 |_=>none
def R.uses(r:R):List Nat:=r.xs.filterMap X.tmp++(match r.gd with|some (t,_)=>[t]|none=>[])
def yZ(a b:List Nat):Bool:=a.all fun x => !b.contains x
def Eff.apart:Eff->Eff->Bool
 |.pat r1 p1,.pat r2 p2=>
  yZ (p1.map (·.k)) (r2++p2.map (·.k))&&yZ (p2.map (·.k)) r1
 |.pat [] [],.whole _|.whole _,.pat [] []=>true
 |.pat r [],.all p|.all p,.pat r []=>yZ (p.map (·.k)) r
 |_,_=>false
def R.apart(x y:R):Bool:=
 (match x.d with
  |some d => !y.uses.contains d&&y.d != some d
  |none=>true) &&
 (match y.d with
  |some d => !x.uses.contains d
  |none=>true)
def iU(i:Nat)(x:R)(e:Eff):List R->List Eff->Bool
 | r::rs,f::fs=>(r.bef.testBit i||(x.apart r&&e.apart f))&&iU i x e rs fs
 |_,_=>true
def gE:Nat->List R->List Eff->Bool
 |i,r::rs,e::es=>iU i r e rs es&&gE (i+1) rs es
 |_,_,_=>true
def clear:List Bool->List AV->List AV
 |true::m,v::r=>v::clear m r
 |false::m,_::r => .top::clear m r
 |_,r=>r
def kC(f:St->Option (Ex×St))(clr:List Bool):Nat->St->Option (Ex×St)
 |0,_=>none
 |n+1,st=>
  match f ⟨clear clr st.env,st.hp⟩ with
  |some (.nor,st')=>kC f clr n st'
  |r=>r
def K5(bs seen:List Nat):List Nat:=bs.filter fun b => !seen.contains b
def F3:Hp->Hp->Bool
 |[],[]=>true
 |x::r,y::s=>(x.k==y.k)&&(x.e==y.e)&&OK x.o y.o&&F3 r s
 |_,_=>false
def eqR(x y:Ex×St):Bool:=decide (x.1=y.1)&&tF x.2.env y.2.env&&F3 x.2.hp y.2.hp
def jU{α : Type}(eq : α -> α -> Bool)(f:Nat->Option α):List Nat->Option α
 |[]=>none
 |[b]=>f b
 |b::l=>
  match f b,jU eq f l with
  |some r,some s=>if eq r s then some r else none
  |_,_=>none
def killI(h:Hp)(k e:Nat):Option Hp:=
 match h.get k with
 |some (e',.itr ..)=>if e'=e then some (h.put k e .dead) else none
 |_=>none
def G2(h:Hp)(k e:Nat):Option (List Nat×(Nat->Ob)):=
 match h.get k with
 |some (e',.itr mk me since seen last)=>
  if e'=e then
   match h.get mk with
   |some (e2,.mpo _ bs ck)=>
    if e2=me/\(bs.all fun b=>decide (b<since))=true/\since<=last then some (K5 bs seen,fun b => .itr mk me since (seen++[b]) ck) else none
   |_=>none
  else none
 |_=>none
def mrN(f:St->Option (Ex×St))(it nx more out:Nat)(clr:List Bool):Nat->St->Option (Ex×St)
 |0,_=>none
 |n+1,st=>
  if nx<st.env.length/\more<st.env.length then
  match gC (clear clr st.env) it with
  |.pt k e 0=>
   match G2 st.hp k e with
   |some (l,o)=>
    if l.isEmpty then (killI st.hp k e).map fun h=>(.ext out,⟨((clear clr st.env).set nx (.tup [.bool false])).set more (.bool false),h⟩)
    else jU eqR (fun b=>
     match f ⟨((clear clr st.env).set nx (.tup [.bool true,.top,.top])).set more (.bool true),st.hp.put k e (o b)⟩ with
     |some (.nor,st')=>mrN f it nx more out clr n st'
     |some (x,st')=>(killI st'.hp k e).map fun h=>(x,⟨st'.env,h⟩)
     |none=>none) l
   |none=>none
  |_=>none
  else none
def DY(env:List AV)(k e:Nat)(h:Hp):Option (Ex×St):=
 match h.get k with
 |some (e',.lp q _ _ _ _ _)=>
  if e'=e then
   match q with
   |0=>some (.nor,⟨env,h.put k e .dead⟩)
   |3=>some (.ret,⟨env,h.put k e .dead⟩)
   |q+4=>some (.ext q,⟨env,h.put k e .dead⟩)
   |_=>none
  else none
 |_=>none
def cA(gl:Nat->Option AV)(call:aZ)(kb n:Nat):C->St->Option (Ex×St)
 |.skip,st=>some (.nor,st)
 |.reg rs false,st=>(oN gl call kb rs st).map fun s=>(.nor,s)
 |.reg rs true,st=>
  match jB gl call kb rs st with
  |some (s,es)=>if gE 0 rs es then some (.nor,s) else none
  |none=>none
 |.seq a b,st=>
  match cA gl call kb n a st with
  |some (.nor,st')=>cA gl call kb n b st'
  |r=>r
 |.cond c a b,st=>
  match c.ev gl st.env with
  |.bool true=>cA gl call kb n a st
  |.bool false=>cA gl call kb n b st
  |_=>none
 |.block id b,st=>
  match cA gl call kb n b st with
  |some (.ext i,st')=>if i=id then some (.nor,st') else some (.ext i,st')
  |r=>r
 |.loop b clr,st=>kC (cA gl call kb n b) clr n st
 |.exit id,st=>some (.ext id,st)
 |.ret,st=>some (.ret,st)
 |.rf x s ps a b,st=>
  match x.ev gl st.env with
  |.fn f cs=>
   match call f (.yl (kb+s) (st.hp.next (kb+s))::cs) ((kb+s+1)*65536) (st.hp.put (kb+s) (st.hp.next (kb+s)) (.lp 0 kb st.env ps a b)) with
   |some (_,h')=>DY st.env (kb+s) (st.hp.next (kb+s)) h'
   |none=>none
  |_=>none
 |.mr it nx more out b clr,st=>mrN (cA gl call kb n b) it nx more out clr n st
 |.bad,_=>none
def vF(st:St):Sum Nat (Nat×Nat×Bool)->Option AV
 |.inl t=>some (gC st.env t)
 |.inr (t,sz,ag)=>
  match gC st.env t with
  |.pt k e off=>match st.hp.get k with
   |some (e',.blk cs _ _ _ _)=>if e'=e then fH cs off sz ag else none
   |_=>none
  |_=>none
def oM(st:St):List (Sum Nat (Nat×Nat×Bool))->Option (List AV)
 |[]=>some []
 |x::r=>
  match vF st x,oM st r with
  |some v,some l=>some (v::l)
  |_,_=>none
def result(st:St)(rs:List (Sum Nat (Nat×Nat×Bool))):Option AV:=
 match oM st rs with
 |some [v]=>some v
 |some l=>some (.tup l)
 |none=>none
def enter(cf:CF)(args:List AV):List AV:=args++List.replicate (cf.nt-args.length) (.tup [])
def pO(env:List AV):List Nat->List AV->List AV
 |t::ps,v::vs=>pO (env.set t v) ps vs
 |_,_=>env
def Ex.code:Ex->Nat
 |.nor=>0
 |.ret=>3
 |.ext i=>i+4
def rQ(ex:C->Nat->St->Option (Ex×St))(k e:Nat)(args:List AV)(h:Hp):Option (AV×Hp):=
 match h.get k with
 |some (e0,.lp 0 b env ps ca cb)=>
  if e0=e/\ps.length=args.length then
   match ex ca b ⟨pO env ps args,h⟩ with
   |some (.nor,st1)=>
    match st1.hp.get k with
    |some (e1,.lp 0 b1 env1 ps1 ca1 cb1)=>
     if e1=e then
      match ex cb b ⟨st1.env,st1.hp.put k e (.lp 1 b1 env1 ps1 ca1 cb1)⟩ with
      |some (x,st2)=>
       match st2.hp.get k with
       |some (e2,.lp 1 b2 env2 ps2 ca2 cb2)=>if e2=e then some (.bool (x == .nor),st2.hp.put k e (.lp x.code b2 env2 ps2 ca2 cb2)) else none
       |_=>none
      |none=>none
     else none
    |_=>none
   |_=>none
  else none
 |_=>none
def bE(pg:Pg):Nat->aZ
 |0=>⟨fun _ _ _ _=>none,fun _ _ _ _=>none⟩
 |n+1=>⟨fun f args kb h=>
  match pg.fs f with
  |none=>
   match pg.ex f with
   |some g=>g args kb h
   |none=>none
  |some cf=>
   match cA pg.gl (bE pg n) kb n cf.body ⟨enter cf args,h⟩ with
   |some (.ext _,_)=>none
   |some (_,st)=>(result st cf.res).map fun v=>(v,st.hp)
   |none=>none,
  rQ (fun c b st=>cA pg.gl (bE pg n) b n c st)⟩
end Go.Tev
end
section
namespace Go.Tev
open Go.RowKit
structure Loc where
 b:Nat
 base:Nat
 room:Nat
 tight:Bool
 esz:Nat
abbrev Rho:=Nat->Nat->Option Loc
structure Nm where
 f:Nat->Nat
 lk:List Nat->C->C->Loop->Prop
instance:CoeFun Nm (fun _=>Nat->Nat):=⟨Nm.f⟩
instance:Coe Nm (Nat->Nat):=⟨Nm.f⟩
inductive Rv(num:Nm)(ρ : Rho)(w:World)(F:Nat->Prop):AV->Value->Prop
 |top (c:Value):Rv num ρ w F .top c
 |bool (b:Bool):Rv num ρ w F (.bool b) (.bool b)
 |int (k:IntKind) (n:Int):Rv num ρ w F (.int k n) (.int k n)
 |str (s:List UInt8):Rv num ρ w F (.str s) (.string ⟨s.toArray⟩)
 |nilp:Rv num ρ w F .nilp (.pointer none)
 |nilm:Rv num ρ w F .nilm (.map none)
 |nilf:Rv num ρ w F .nilf .nilFunc
 |nili:Rv num ρ w F .nili .nilIface
 |agg (cs:List AV) (vs:Array Value) (hl:cs.length=vs.size) (h:∀(i:Nat)(x:AV)(y:Value),cs[i]?=some x->vs[i]?=some y->Rv num ρ w F x y) :
   Rv num ρ w F (.agg cs) (.agg vs)
 |tup (cs:List AV) (vs:Array Value) (hl:cs.length=vs.size) (h:∀(i:Nat)(x:AV)(y:Value),cs[i]?=some x->vs[i]?=some y->Rv num ρ w F x y) :
   Rv num ρ w F (.tup cs) (.tuple vs)
 |nsl (cl:Bool):Rv num ρ w F (.sl true [] cl) (.slice none 0 0)
 |sl (es:List AV) (cl:Bool) (b off cap sz:Nat) (c:Nat->Value) (hc:es.length<=cap) (hcl:cl=true->cap=es.length)
   (hF:es≠[]->¬F b/\b<w.heap.size)
   (hz:∀(i:Nat)(e:AV),es[i]?=some e->e.cells.length=sz)
   (hm:∀n,n<es.length*sz->w.cell? ⟨b,off+n,none⟩=some (c n))
   (hr:∀(i:Nat)(e:AV)(j:Nat)(x:AV),es[i]?=some e->e.cells[j]?=some x->Rv num ρ w F x (c (i*sz+j)))
   (sp:Option Nat) (hsp:es≠[]->sp=none) :
   Rv num ρ w F (.sl false es cl) (.slice (some ⟨b,off,sp⟩) es.length cap)
 |fp (v:AV) (b off:Nat) (c:Nat->Value) (hF:¬F b) (hb:b<w.heap.size)
   (hm:∀n,n<v.cells.length->w.cell? ⟨b,off+n,none⟩=some (c n))
   (hr:∀(j:Nat)(x:AV),v.cells[j]?=some x->Rv num ρ w F x (c j)) :
   Rv num ρ w F (.fp v) (.pointer (some ⟨b,off,none⟩))
 |rf (k e off len cap cap':Nat) (L:Loc) (hL : ρ k e=some L) (hlen:len<=cap) (hcap:cap<=cap') (ht:L.tight=true->cap'=cap)
   (hroom:off+cap'*L.esz<=L.room) :
   Rv num ρ w F (.rf k e off len cap) (.slice (some ⟨L.b,L.base+off,none⟩) len cap')
 |pt (k e off:Nat) (L:Loc) (hL : ρ k e=some L):Rv num ρ w F (.pt k e off) (.pointer (some ⟨L.b,L.base+off,none⟩))
 |mp (k e:Nat) (L:Loc) (hL : ρ k e=some L):Rv num ρ w F (.mp k e) (.map (some L.b))
 |yl (k e:Nat) (L:Loc) (hL : ρ k e=some L):Rv num ρ w F (.yl k e) (.func (.yield L.b) #[] #[])
 |fn (f:Nat) (cs:List AV) (vs:Array Value) (hl:cs.length=vs.size) (h:∀(i:Nat)(x:AV)(y:Value),cs[i]?=some x->vs[i]?=some y->Rv num ρ w F x y) :
   Rv num ρ w F (.fn f cs) (.func (.func (num f)) #[] vs)
 |ifc (v:AV) (t:TypeId) (c:Value) (h:Rv num ρ w F v c):Rv num ρ w F (.ifc v) (.iface t c)
structure Evo(ρ : Rho)(w:World)(O:Nat->Prop)(ρ':Rho)(w':World)(O':Nat->Prop):Prop where
 os:w'.os=w.os
 tape:w'.tape=w.tape
 output:w'.output=w.output
 size:w.heap.size<=w'.heap.size
 keep:∀b,b<w.heap.size->¬O b->w'.heap[b]?=w.heap[b]?
 own:∀b,b<w.heap.size->O' b->O b
 rho:∀k e L,ρ k e=some L -> ρ' k e=some L
theorem Evo.refl(ρ : Rho)(w:World)(O:Nat->Prop):Evo ρ w O ρ w O:=
 ⟨rfl,rfl,rfl,Nat.le_refl _,fun _ _ _=>rfl,fun _ _ h=>h,fun _ _ _ h=>h⟩
theorem Evo.trans{ρ ρ' ρ'':Rho}{w w' w'':World}{O O' O'':Nat->Prop}(h:Evo ρ w O ρ' w' O')(k:Evo ρ' w' O' ρ'' w'' O''):Evo ρ w O ρ'' w'' O'' where
 os:=k.os.trans h.os
 tape:=k.tape.trans h.tape
 output:=k.output.trans h.output
 size:=Nat.le_trans h.size k.size
 keep:=fun b hb hO=>(k.keep b (Nat.lt_of_lt_of_le hb h.size) (fun h'=>hO (h.own b hb h'))).trans (h.keep b hb hO)
 own:=fun b hb hO=>h.own b hb (k.own b (Nat.lt_of_lt_of_le hb h.size) hO)
 rho:=fun k' e L hL=>k.rho k' e L (h.rho k' e L hL)
theorem l0{w w':World}{b off:Nat}(h:w'.heap[b]?=w.heap[b]?):w'.cell? ⟨b,off,none⟩=w.cell? ⟨b,off,none⟩:=by
 simp only[World.cell?,h]
theorem Rv.evo{num:Nm}{ρ ρ':Rho}{w w':World}{Fb O O':Nat->Prop}{v:AV}{c:Value}(h:Rv num ρ w (fun b=>Fb b\/O b) v c)(he:Evo ρ w O ρ' w' O') :
  Rv num ρ' w' (fun b=>Fb b\/O' b) v c:=by
 induction h with
 |top c=>exact .top c
 |bool b=>exact .bool b
 |int k n=>exact .int k n
 |str s=>exact .str s
 |nilp=>exact .nilp
 |nilm=>exact .nilm
 |nilf=>exact .nilf
 |nili=>exact .nili
 |agg cs vs hl _ ih=>exact .agg cs vs hl ih
 |tup cs vs hl _ ih=>exact .tup cs vs hl ih
 |nsl cl=>exact .nsl cl
 |sl es cl b off cap sz c hc hcl hF hz hm _ sp hsp ih=>
  refine .sl es cl b off cap sz c hc hcl ?_ hz ?_ ih sp hsp
  ·intro hne
   obtain⟨h1,h2⟩:=hF hne
   refine⟨fun h=>h1 ?_,Nat.lt_of_lt_of_le h2 he.size⟩
   exact h.imp id (he.own b h2)
  ·intro n hn
   have hne:es≠[]:=by intro h;subst h;simp at hn
   obtain⟨h1,h2⟩:=hF hne
   rw[l0 (he.keep b h2 (fun h=>h1 (.inr h)))]
   exact hm n hn
 |fp v b off c hF hb hm _ ih=>
  refine .fp v b off c (fun h=>hF (h.imp id (he.own b hb))) (Nat.lt_of_lt_of_le hb he.size) ?_ ih
  intro n hn
  rw[l0 (he.keep b hb (fun h=>hF (.inr h)))]
  exact hm n hn
 |rf k e off len cap cap' L hL hlen hcap ht hroom=>exact .rf k e off len cap cap' L (he.rho k e L hL) hlen hcap ht hroom
 |pt k e off L hL=>exact .pt k e off L (he.rho k e L hL)
 |mp k e L hL=>exact .mp k e L (he.rho k e L hL)
 |yl k e L hL=>exact .yl k e L (he.rho k e L hL)
 |fn f cs vs hl _ ih=>exact .fn f cs vs hl ih
 |ifc v t c _ ih=>exact .ifc v t c ih
theorem Rv.tree_mono{num:Nm}{ρ ρ':Rho}{w:World}{F F':Nat->Prop}{v:AV}{c:Value}(h:Rv num ρ w F v c)(ht:v.tree=true)(hF:∀b,F' b->F b) :
  Rv num ρ' w F' v c:=by
 induction h with
 |top c=>exact .top c
 |bool b=>exact .bool b
 |int k n=>exact .int k n
 |str s=>exact .str s
 |nilp=>exact .nilp
 |nilm=>exact .nilm
 |nilf=>exact .nilf
 |nili=>exact .nili
 |agg cs vs hl _ ih=>exact .agg cs vs hl (fun i x y hx hy=>ih i x y hx hy (treeL_get (by simpa[AV.tree] using ht) i x hx))
 |tup cs vs hl _ ih=>exact .tup cs vs hl (fun i x y hx hy=>ih i x y hx hy (treeL_get (by simpa[AV.tree] using ht) i x hx))
 |nsl cl=>exact .nsl cl
 |sl es cl b off cap sz c hc hcl hF' hz hm _ sp hsp ih=>
  refine .sl es cl b off cap sz c hc hcl (fun hne=>⟨fun h=>(hF' hne).1 (hF b h),(hF' hne).2⟩) hz hm ?_ sp hsp
  intro i e j x he hx
  refine ih i e j x he hx ?_
  have h1:=treeL_get (by simpa[AV.tree] using ht) i e he
  exact cells_tree h1 j x hx
 |fp v b off c hF' hb hm _ ih=>
  refine .fp v b off c (fun h=>hF' (hF b h)) hb hm (fun j x hx=>ih j x hx ?_)
  exact cells_tree (by simpa[AV.tree] using ht) j x hx
 |rf=>simp[AV.tree]at ht
 |pt=>simp[AV.tree]at ht
 |mp=>simp[AV.tree]at ht
 |yl=>simp[AV.tree]at ht
 |fn f cs vs hl _ ih=>exact .fn f cs vs hl (fun i x y hx hy=>ih i x y hx hy (treeL_get (by simpa[AV.tree] using ht) i x hx))
 |ifc v t c _ ih=>exact .ifc v t c (ih (by simpa[AV.tree] using ht))
where
 treeL_get:∀{l:List AV},treeL l=true->∀(i:Nat)(x:AV),l[i]?=some x->x.tree=true:=by
  intro l
  induction l with
  |nil=>intro _ i x h;simp at h
  |cons y r ih=>
   intro h i x hx
   simp only[treeL,Bool.and_eq_true]at h
   cases i with
   |zero=>simp at hx;exact hx ▸ h.1
   |succ i=>exact ih h.2 i x (by simpa using hx)
 cells_tree:∀{v:AV},v.tree=true->∀(i:Nat)(x:AV),v.cells[i]?=some x->x.tree=true:=by
  intro v hv i x hx
  cases v<;>simp only[AV.cells]at hx <;>
   first
    |exact treeL_get (by simpa[AV.tree] using hv) i x hx
    |(cases i with
      |zero=>simp at hx;exact hx ▸ hv
      |succ i=>simp at hx)
theorem Rv.flat_any{num:Nm}{ρ ρ':Rho}{w w':World}{F F':Nat->Prop}{v:AV}{c:Value}(h:Rv num ρ w F v c)(ht:v.flat=true) :
  Rv num ρ' w' F' v c:=by
 induction h with
 |top c=>exact .top c
 |bool b=>exact .bool b
 |int k n=>exact .int k n
 |str s=>exact .str s
 |nilp=>exact .nilp
 |nilm=>exact .nilm
 |nilf=>exact .nilf
 |nili=>exact .nili
 |agg cs vs hl _ ih=>exact .agg cs vs hl (fun i x y hx hy=>ih i x y hx hy (flatL_get (by simpa[AV.flat] using ht) i x hx))
 |tup cs vs hl _ ih=>exact .tup cs vs hl (fun i x y hx hy=>ih i x y hx hy (flatL_get (by simpa[AV.flat] using ht) i x hx))
 |nsl cl=>exact .nsl cl
 |sl es cl b off cap sz c hc hcl hF' hz hm _ sp hsp ih=>
  have:es=[]:=by simpa[AV.flat] using ht
  subst this
  exact .sl [] cl b off cap sz c hc hcl (fun h=>absurd rfl h) hz (by simp) (fun i e j x he=>by simp at he) sp hsp
 |fp=>simp[AV.flat]at ht
 |rf=>simp[AV.flat]at ht
 |pt=>simp[AV.flat]at ht
 |mp=>simp[AV.flat]at ht
 |yl=>simp[AV.flat]at ht
 |fn f cs vs hl _ ih=>exact .fn f cs vs hl (fun i x y hx hy=>ih i x y hx hy (flatL_get (by simpa[AV.flat] using ht) i x hx))
 |ifc v t c _ ih=>exact .ifc v t c (ih (by simpa[AV.flat] using ht))
where
 flatL_get:∀{l:List AV},AI l=true->∀(i:Nat)(x:AV),l[i]?=some x->x.flat=true:=by
  intro l
  induction l with
  |nil=>intro _ i x h;simp at h
  |cons y r ih=>
   intro h i x hx
   simp only[AI,Bool.and_eq_true]at h
   cases i with
   |zero=>simp at hx;exact hx ▸ h.1
   |succ i=>exact ih h.2 i x (by simpa using hx)
theorem Rv.F_mono{num:Nm}{ρ : Rho}{w:World}{F F':Nat->Prop}{v:AV}{c:Value}(h:Rv num ρ w F v c)(hF:∀b,F' b->F b):Rv num ρ w F' v c:=by
 induction h with
 |top c=>exact .top c
 |bool b=>exact .bool b
 |int k n=>exact .int k n
 |str s=>exact .str s
 |nilp=>exact .nilp
 |nilm=>exact .nilm
 |nilf=>exact .nilf
 |nili=>exact .nili
 |agg cs vs hl _ ih=>exact .agg cs vs hl ih
 |tup cs vs hl _ ih=>exact .tup cs vs hl ih
 |nsl cl=>exact .nsl cl
 |sl es cl b off cap sz c hc hcl hF' hz hm _ sp hsp ih=>exact .sl es cl b off cap sz c hc hcl (fun hne=>⟨fun h=>(hF' hne).1 (hF b h),(hF' hne).2⟩) hz hm ih sp hsp
 |fp v b off c hF' hb hm _ ih=>exact .fp v b off c (fun h=>hF' (hF b h)) hb hm ih
 |rf k e off len cap cap' L hL hlen hcap ht hroom=>exact .rf k e off len cap cap' L hL hlen hcap ht hroom
 |pt k e off L hL=>exact .pt k e off L hL
 |mp k e L hL=>exact .mp k e L hL
 |yl k e L hL=>exact .yl k e L hL
 |fn f cs vs hl _ ih=>exact .fn f cs vs hl ih
 |ifc v t c _ ih=>exact .ifc v t c ih
section
variable{num:Nm}{ρ : Rho}{w:World}{F:Nat->Prop}
theorem Rv.of_int{k:IntKind}{n:Int}{c:Value}(hh:Rv num ρ w F (.int k n) c):c = .int k n:=by cases hh;rfl
theorem Rv.of_bool{b:Bool}{c:Value}(hh:Rv num ρ w F (.bool b) c):c = .bool b:=by cases hh;rfl
theorem Rv.of_str{s:List UInt8}{c:Value}(hh:Rv num ρ w F (.str s) c):c = .string ⟨s.toArray⟩:=by cases hh;rfl
theorem Rv.of_nilp{c:Value}(hh:Rv num ρ w F .nilp c):c = .pointer none:=by cases hh;rfl
theorem Rv.of_nilm{c:Value}(hh:Rv num ρ w F .nilm c):c = .map none:=by cases hh;rfl
theorem Rv.of_nilf{c:Value}(hh:Rv num ρ w F .nilf c):c = .nilFunc:=by cases hh;rfl
theorem Rv.of_nili{c:Value}(hh:Rv num ρ w F .nili c):c = .nilIface:=by cases hh;rfl
theorem Rv.of_agg{cs:List AV}{c:Value}(hh:Rv num ρ w F (.agg cs) c) :
  ∃vs:Array Value,c = .agg vs/\cs.length=vs.size/\∀(i:Nat)(x:AV)(y:Value),cs[i]?=some x->vs[i]?=some y->Rv num ρ w F x y:=by
 cases hh with|agg _ vs hl h=>exact⟨vs,rfl,hl,h⟩
theorem Rv.of_tup{cs:List AV}{c:Value}(hh:Rv num ρ w F (.tup cs) c) :
  ∃vs:Array Value,c = .tuple vs/\cs.length=vs.size/\∀(i:Nat)(x:AV)(y:Value),cs[i]?=some x->vs[i]?=some y->Rv num ρ w F x y:=by
 cases hh with|tup _ vs hl h=>exact⟨vs,rfl,hl,h⟩
theorem Rv.of_fn{f:Nat}{cs:List AV}{c:Value}(hh:Rv num ρ w F (.fn f cs) c) :
  ∃vs:Array Value,c = .func (.func (num f)) #[] vs/\cs.length=vs.size/\∀(i:Nat)(x:AV)(y:Value),cs[i]?=some x->vs[i]?=some y->Rv num ρ w F x y:=by
 cases hh with|fn _ _ vs hl h=>exact⟨vs,rfl,hl,h⟩
theorem Rv.of_nsl{es:List AV}{cl:Bool}{c:Value}(hh:Rv num ρ w F (.sl true es cl) c):es=[]/\c = .slice none 0 0:=by cases hh;exact⟨rfl,rfl⟩
theorem Rv.of_sl{es:List AV}{cl:Bool}{c:Value}(hh:Rv num ρ w F (.sl false es cl) c) :
  ∃(b off cap sz:Nat)(m:Nat->Value)(sp:Option Nat),c = .slice (some ⟨b,off,sp⟩) es.length cap/\(es≠[]->sp=none)/\es.length<=cap/\(cl=true->cap=es.length) /\
   (es≠[]->¬F b/\b<w.heap.size)/\(∀(i:Nat)(e:AV),es[i]?=some e->e.cells.length=sz) /\
   (∀n,n<es.length*sz->w.cell? ⟨b,off+n,none⟩=some (m n)) /\
   (∀(i:Nat)(e:AV)(j:Nat)(x:AV),es[i]?=some e->e.cells[j]?=some x->Rv num ρ w F x (m (i*sz+j))):=by
 cases hh with|sl _ _ b off cap sz m hc hcl hF hz hm hr sp hsp=>exact⟨b,off,cap,sz,m,sp,rfl,hsp,hc,hcl,hF,hz,hm,hr⟩
theorem Rv.of_fp{v:AV}{c:Value}(hh:Rv num ρ w F (.fp v) c) :
  ∃(b off:Nat)(m:Nat->Value),c = .pointer (some ⟨b,off,none⟩)/\¬F b/\b<w.heap.size /\
   (∀n,n<v.cells.length->w.cell? ⟨b,off+n,none⟩=some (m n))/\(∀(j:Nat)(x:AV),v.cells[j]?=some x->Rv num ρ w F x (m j)):=by
 cases hh with|fp _ b off m hF hb hm hr=>exact⟨b,off,m,rfl,hF,hb,hm,hr⟩
theorem Rv.of_rf{k e off len cap:Nat}{c:Value}(hh:Rv num ρ w F (.rf k e off len cap) c) :
  ∃(cap':Nat)(L:Loc),c = .slice (some ⟨L.b,L.base+off,none⟩) len cap' /\ ρ k e=some L/\len<=cap/\cap<=cap'/\(L.tight=true->cap'=cap)/\off+cap'*L.esz<=L.room:=by
 cases hh with|rf _ _ _ _ _ cap' L hL hlen hcap ht hroom=>exact⟨cap',L,rfl,hL,hlen,hcap,ht,hroom⟩
theorem Rv.of_pt{k e off:Nat}{c:Value}(hh:Rv num ρ w F (.pt k e off) c):∃L,c = .pointer (some ⟨L.b,L.base+off,none⟩) /\ ρ k e=some L:=by
 cases hh with|pt _ _ _ L hL=>exact⟨L,rfl,hL⟩
theorem Rv.of_mp{k e:Nat}{c:Value}(hh:Rv num ρ w F (.mp k e) c):∃L,c = .map (some L.b) /\ ρ k e=some L:=by
 cases hh with|mp _ _ L hL=>exact⟨L,rfl,hL⟩
theorem Rv.of_yl{k e:Nat}{c:Value}(hh:Rv num ρ w F (.yl k e) c):∃L,c = .func (.yield L.b) #[] #[] /\ ρ k e=some L:=by
 cases hh with|yl _ _ L hL=>exact⟨L,rfl,hL⟩
theorem Rv.of_ifc{v:AV}{c:Value}(hh:Rv num ρ w F (.ifc v) c):∃t c',c = .iface t c'/\Rv num ρ w F v c':=by
 cases hh with|ifc _ t c' h=>exact⟨t,c',rfl,h⟩
end
def Ob.live:Ob->Bool
 |.blk _ _ _ _ false|.mpo ..|.lp ..|.itr .. => true
 |_=>false
def K3(st:Nat)(r:Loop):Prop:=
 (st=0/\r.state = .ready/\r.pending=none)\/(st=1/\r.state = .busy/\r.pending=none)\/(st=3/\r.state = .done/\r.pending=some .ret)\/∃i,st=4+i/\r.state = .done/\r.pending=some (.exit i)
structure HpR(num:Nm)(Fb:Nat->Prop)(B0:Nat)(ρ : Rho)(w:World)(O:Nat->Prop)(h:Hp):Prop where
 blk:∀k e cs esz ag ti fz,h.get k=some (e,.blk cs esz ag ti fz)->∃(L:Loc)(c:Array Value)(T:TypeId),ρ k e=some L/\L.tight=ti/\L.esz=esz /\
  w.heap[L.b]?=some (.cells c T (0,0))/\L.base+L.room<=c.size/\cs.length<=L.room /\
  (∀(i:Nat)(x:AV),cs[i]?=some x->∃y,c[L.base+i]?=some y/\Rv num ρ w (fun b=>Fb b\/O b) x y)/\B0<=L.b/\(fz=false->O L.b)/\(fz=true->¬O L.b)
 mpo:∀k e es bs ck,h.get k=some (e,.mpo es bs ck)->∃(L:Loc)(c:Array MapEntry)(clock:Nat),ρ k e=some L/\w.heap[L.b]?=some (.map c clock)/\(es.length=c.size/\clock=ck/\c.toList.map MapEntry.born=bs) /\
  (∀(i:Nat)(x:AV×AV)(y:MapEntry),es[i]?=some x->c[i]?=some y->Rv num ρ w (fun b=>Fb b\/O b) x.1 y.key/\Rv num ρ w (fun b=>Fb b\/O b) x.2 y.val/\x.1.key=true/\x.2.fits x.2.cells.length x.2.isAgg=true) /\
  B0<=L.b/\O L.b
 lpo:∀k e st b env ps ca cb,h.get k=some (e,.lp st b env ps ca cb)->∃(L:Loc)(r:Loop),ρ k e=some L/\w.heap[L.b]?=some (.loop r)/\num.lk ps ca cb r/\K3 st r/\env.length=r.tmps.size /\
  (∀(i:Nat)(x:AV)(y:Value),env[i]?=some x->r.tmps[i]?=some y->Rv num ρ w (fun b=>Fb b\/O b) x y)/\B0<=L.b/\O L.b
 ito:∀k e mk me since seen last,h.get k=some (e,.itr mk me since seen last)->∃(L Lm:Loc),ρ k e=some L /\ ρ mk me=some Lm/\w.heap[L.b]?=some (.mapIter (some Lm.b) since seen.toArray last)/\L.base=0/\B0<=L.b/\O L.b
 inj:∀k k' e e' o o' L L',h.get k=some (e,o)->h.get k'=some (e',o')->o.live=true->o'.live=true -> ρ k e=some L -> ρ k' e'=some L'->L.b=L'.b->k=k'
 ep:∀k e L,ρ k e=some L->∃e' o,h.get k=some (e',o)/\e<=e'
 own:∀b,O b->B0<=b/\b<w.heap.size
 fbl:∀b,Fb b->b<B0
 le:B0<=w.heap.size
theorem aD(h:Hp)(k e:Nat)(o:Ob)(k':Nat):(h.put k e o).get k'=if k=k' then some (e,o) else h.get k':=by
 induction h with
 |nil=>simp[Hp.put,Hp.get]
 |cons x r ih=>
  simp only[Hp.put]
  by_cases h1:k<x.k
  ·simp[h1,Hp.get]
  ·by_cases h2:x.k=k
   ·simp only[h1,if_false,h2,if_true]
    by_cases h3:k=k'
    ·simp[Hp.get,h3]
    ·simp[Hp.get,h3,h2]
   ·simp only[h1,h2,if_false,Hp.get,ih]
    by_cases h3:k=k'
    ·subst h3;simp[h2]
    ·simp[h3]
theorem KE(h:Hp)(k k' e e':Nat)(o o':Ob)(hne:k≠k'):(h.put k e o).put k' e' o'=(h.put k' e' o').put k e o:=by
 induction h with
 |nil=>
  simp only[Hp.put]
  rcases Nat.lt_or_gt_of_ne hne with h1|h1
  ·simp[Nat.not_lt_of_gt h1,h1,hne]
  ·simp[Nat.not_lt_of_gt h1,h1,Ne.symm hne]
 |cons x r ih=>
  rcases Nat.lt_or_gt_of_ne hne with hlt|hlt <;>
  rcases Nat.lt_trichotomy k x.k with a|a|a<;>rcases Nat.lt_trichotomy k' x.k with b|b|b<;>(try omega)
  all_goals
   have q1:¬k=k':=hne
   have q2:¬k'=k:=fun e=>hne e.symm
   simp only[Hp.put]
  ·rw[if_pos a,if_pos b];simp only[Hp.put];rw[if_neg (by omega),if_neg q1,if_pos b,if_pos hlt]
  ·rw[if_pos a,if_neg (by omega),if_pos b.symm];simp only[Hp.put];rw[if_neg (by omega),if_neg q1,if_neg (by omega),if_pos b.symm,if_pos hlt]
  ·rw[if_pos a,if_neg (by omega),if_neg (by omega)];simp only[Hp.put];rw[if_neg (by omega),if_neg q1,if_neg (by omega),if_neg (by omega),if_pos a]
  ·rw[if_neg (by omega),if_pos a.symm,if_neg (by omega),if_neg (by omega)];simp only[Hp.put];rw[if_neg (by omega),if_neg q1,if_neg (by omega),if_pos a.symm]
  ·rw[if_neg (by omega),if_neg (by omega),if_neg (by omega),if_neg (by omega)];simp only[Hp.put];rw[if_neg (by omega),if_neg (by omega),if_neg (by omega),if_neg (by omega),ih]
  ·rw[if_pos a,if_pos b];simp only[Hp.put];rw[if_pos hlt,if_neg (by omega),if_neg q2,if_pos a]
  ·rw[if_neg (by omega),if_pos a.symm,if_pos b];simp only[Hp.put];rw[if_pos hlt,if_neg (by omega),if_neg q2,if_neg (by omega),if_pos a.symm]
  ·rw[if_neg (by omega),if_neg (by omega),if_pos b];simp only[Hp.put];rw[if_pos b,if_neg (by omega),if_neg q2,if_neg (by omega),if_neg (by omega)]
  ·rw[if_neg (by omega),if_neg (by omega),if_neg (by omega),if_pos b.symm];simp only[Hp.put];rw[if_neg (by omega),if_pos b.symm,if_neg (by omega),if_neg q2]
  ·rw[if_neg (by omega),if_neg (by omega),if_neg (by omega),if_neg (by omega)];simp only[Hp.put];rw[if_neg (by omega),if_neg (by omega),if_neg (by omega),if_neg (by omega),ih]
end Go.Tev
end
