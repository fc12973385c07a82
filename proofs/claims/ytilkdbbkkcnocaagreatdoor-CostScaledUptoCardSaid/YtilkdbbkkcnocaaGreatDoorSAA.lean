import GoSem.Step
set_option linter.all false
section
namespace Go.Tev
abbrev aD := @Bool.and_eq_true
abbrev cP := @List.length_map
abbrev cZ := @List.getElem?_eq_getElem
abbrev aG := @of_decide_eq_true
abbrev cF := @List.getElem?_eq_some_iff
abbrev aU := @Option.some.injEq
abbrev cK := @decide_eq_true_eq
abbrev cO := @List.length_append
abbrev aN := @of_decide_eq_false
abbrev bT := @List.mem_cons_of_mem
abbrev cY := @List.getElem?_eq_none
abbrev bA := @Prod.mk.injEq
abbrev gU := @List.eq_nil_of_length_eq_zero
abbrev eE := @decide_eq_decide
abbrev hZ := @Int.eq_ofNat_of_zero_le
abbrev nH := @decide_eq_false_iff_not
abbrev sD := @List.drop_eq_getElem_cons
abbrev lZ := @Array.getElem?_eq_some_iff
abbrev LQ := @List.eq_nil_or_concat
abbrev eK := @List.all_eq_true
abbrev lH := @Option.map_eq_some_iff
abbrev fY := @Bool.not_eq_true'
abbrev aFg := @List.length_replicate
abbrev u4 := @List.getElem?_append_right
abbrev jW := @List.mem_append
inductive AV where
 |top
 |bool (b:Bool)
 |int (k:IntKind) (n:Int)
 |str (s:List UInt8)
 |nilp|nilm|nilf|nili
 |agg (cs:List AV)
 |tup (cs:List AV)
 |sl (nl:Bool) (es:List AV) (cl:Bool)
 |fp (v:AV)
 |rf (k e off len cap:Nat)
 |pt (k e off:Nat)
 |mp (k e:Nat)
 |yl (k e:Nat)
 |fn (f:Nat) (cs:List AV)
 |ifc (v:AV)
 |os (es:List AV) (esz:Nat) (ag:Bool)
 |ift (t:Nat) (v:AV)
 |fnm (f:Nat) (v:AV)
 deriving Inhabited
def eqS:List UInt8->List UInt8->Bool
 |[],[]=>true
 |x::r,y::s=>bif x.toNat.beq y.toNat then eqS r s else false
 |_,_=>false
theorem AH:∀(a b:List UInt8),eqS a b=decide (a=b)
 |[],[]=>by simp[eqS]
 |[],_::_=>by simp[eqS]
 |_::_,[]=>by simp[eqS]
 |x::r,y::s=>by simp only[eqS,cond_eq_ite,Nat.beq_eq,AH r s];by_cases h:x=y;subst h;simp;have:x.toNat≠y.toNat:=λq=>h (UInt8.toNat_inj.1 q);rw[if_neg this];simp[h]
mutual
def eqA:AV->AV->Bool
 |.top,.top=>true
 |.bool a,.bool b=>a==b
 |.int k a,.int k' b=>decide (k=k')&&decide (a=b)
 |.str a,.str b=>eqS a b
 |.nilp,.nilp|.nilm,.nilm|.nilf,.nilf|.nili,.nili=>true
 |.agg a,.agg b=>pB a b
 |.tup a,.tup b=>pB a b
 |.sl n a c,.sl n' b c'=>(n==n')&&pB a b&&(c==c')
 |.fp a,.fp b=>eqA a b
 |.rf k e o l c,.rf k' e' o' l' c'=>(k==k')&&(e==e')&&(o==o')&&(l==l')&&(c==c')
 |.pt k e o,.pt k' e' o'=>(k==k')&&(e==e')&&(o==o')
 |.mp k e,.mp k' e'=>(k==k')&&(e==e')
 |.yl k e,.yl k' e'=>(k==k')&&(e==e')
 |.fn f a,.fn g b=>(f==g)&&pB a b
 |.ifc a,.ifc b=>eqA a b
 |.os a b c,.os a' b' c'=>pB a a'&&(b==b')&&(c==c')
 |.ift t a,.ift t' b=>(t==t')&&eqA a b
 |.fnm t a,.fnm t' b=>(t==t')&&eqA a b
 |_,_=>false
def pB:List AV->List AV->Bool
 |[],[]=>true
 |x::r,y::s=>eqA x y&&pB r s
 |_,_=>false
end
mutual
theorem iR:∀(x y:AV),eqA x y=true->x=y
 |.top,y,h=>by cases y<;>simp[eqA]at h ⊢
 |.bool a,y,h=>by cases y<;>simp[eqA]at h ⊢;exact h
 |.int k a,y,h=>by cases y<;>simp[eqA]at h ⊢;exact h
 |.str a,y,h=>by cases y<;>simp[eqA,AH]at h ⊢;exact h
 |.nilp,y,h=>by cases y<;>simp[eqA]at h ⊢
 |.nilm,y,h=>by cases y<;>simp[eqA]at h ⊢
 |.nilf,y,h=>by cases y<;>simp[eqA]at h ⊢
 |.nili,y,h=>by cases y<;>simp[eqA]at h ⊢
 |.agg a,y,h=>by cases y<;>simp[eqA]at h ⊢;exact fP a _ h
 |.tup a,y,h=>by cases y<;>simp[eqA]at h ⊢;exact fP a _ h
 |.sl n a c,y,h=>by cases y<;>simp[eqA]at h ⊢;exact⟨h.1.1,fP a _ h.1.2,h.2⟩
 |.fp a,y,h=>by cases y<;>simp[eqA]at h ⊢;exact iR a _ h
 |.rf k e o l c,y,h=>by cases y<;>simp[eqA]at h ⊢;exact⟨h.1.1.1.1,h.1.1.1.2,h.1.1.2,h.1.2,h.2⟩
 |.pt k e o,y,h=>by cases y<;>simp[eqA]at h ⊢;exact⟨h.1.1,h.1.2,h.2⟩
 |.mp k e,y,h=>by cases y<;>simp[eqA]at h ⊢;exact h
 |.fn f a,y,h=>by cases y<;>simp[eqA]at h ⊢;exact⟨h.1,fP a _ h.2⟩
 |.ifc a,y,h=>by cases y<;>simp[eqA]at h ⊢;exact iR a _ h
 |.yl k e,y,h=>by cases y<;>simp[eqA]at h ⊢;exact h
 |.os a b c,y,h=>by cases y<;>simp[eqA]at h ⊢;exact⟨fP a _ h.1.1,h.1.2,h.2⟩
 |.ift t a,y,h=>by cases y<;>simp[eqA]at h ⊢;exact⟨h.1,iR a _ h.2⟩
 |.fnm t a,y,h=>by cases y<;>simp[eqA]at h ⊢;exact⟨h.1,iR a _ h.2⟩
theorem fP:∀(x y:List AV),pB x y=true->x=y
 |[],[],_=>rfl
 |[],_::_,h=>by simp[pB]at h
 |_::_,[],h=>by simp[pB]at h
 |a::r,b::s,h=>by simp only[pB,aD]at h;rw[iR a b h.1,fP r s h.2]
end
mutual
theorem lD:∀x:AV,eqA x x=true
 |.top=>rfl
 |.bool _=>by simp[eqA]
 |.int _ _=>by simp[eqA]
 |.str _=>by simp[eqA,AH]
 |.nilp|.nilm|.nilf|.nili=>rfl
 |.agg l=>by simp[eqA,kU l]
 |.tup l=>by simp[eqA,kU l]
 |.sl _ l _=>by simp[eqA,kU l]
 |.fp v=>by simp[eqA,lD v]
 |.rf .. => by simp[eqA]
 |.pt .. => by simp[eqA]
 |.mp .. => by simp[eqA]
 |.yl .. => by simp[eqA]
 |.fn _ l=>by simp[eqA,kU l]
 |.ifc v=>by simp[eqA,lD v]
 |.os l _ _=>by simp[eqA,kU l]
 |.ift _ v=>by simp[eqA,lD v]
 |.fnm _ v=>by simp[eqA,lD v]
theorem kU:∀l:List AV,pB l l=true
 |[]=>rfl
 |x::r=>by simp[pB,lD x,kU r]
end
instance:DecidableEq AV:=λx y=>if h:eqA x y=true then isTrue (iR x y h) else isFalse (λe=>h (e ▸ lD x))
inductive K where
 |mov
 |pick
 |box
 |alloc (zero:List AV) (ag:Bool)
 |build (zero:List AV) (parts:List (Nat×Nat))
 |mkSl (esz:Nat) (ag:Bool) (own:Bool)
 |load (sz:Nat) (ag:Bool)
 |store (sz:Nat) (ag:Bool)
 |nilc
 |bin (op:BinOp)
 |beq (ng:Bool)
 |eqn (q:Nat) (ng:Bool)
 |eqs (ng:Bool) (qs:List Nat)
 |un (op:UnOp)
 |cvi (k:IntKind)
 |cvs
 |s2b
 |b2s
 |fld (off sz:Nat) (ag:Bool)
 |fad (off sz:Nat) (ag:Bool)
 |iad (esz:Nat) (ag:Bool) (arr:Option Nat)
 |ixs
 |ixa (len esz:Nat) (ag:Bool)
 |slc (esz:Nat) (lo hi mx:Bool)
 |sls (lo hi:Bool)
 |sla (len esz:Nat) (lo hi:Bool)
 |mks (esz:Nat) (ag:Bool) (bytes:Nat) (zero:List AV)
 |len (q:Nat)
 |lenc (n:Nat)
 |cap
 |app (esz:Nat) (ag:Bool) (bytes:Nat)
 |apz (esz:Nat) (ag:Bool) (bytes:Nat) (zero:List AV)
 |cpy (esz:Nat) (ag:Bool)
 |clr (esz:Nat) (zero:List AV)
 |mn
 |mx
 |ext (i:Nat)
 |mki
 |mkf (f:Nat)
 |call (f:Nat) (th im:Bool)
 |callv (th im:Bool)
 |mkm
 |mlk (q:Nat) (zero:AV) (ok:Bool)
 |mup (q:Nat)
 |mdel (q:Nat)
 |men (q:Nat) (zero:AV)
 |mes
 |bx (q:Nat)
 |rng
 |ent
 |mkZ (esz:Nat) (ag:Bool)
 |frz
 |calle (f:Nat)
 |callr (f:Nat)
 |callvr
 |mkT (t:Nat)
 |mkM (f:Nat)
 |tas (t:Nat) (no:List Nat) (zero:AV) (ok:Bool)
 |inv (tb:List (Nat×Nat)) (th im:Bool)
 |mvk
 |bad
 deriving Inhabited,DecidableEq
inductive X where
 |t (n:Nat)
 |c (v:AV)
 |g (n:Nat)
 |f (n:Nat)
 deriving Inhabited,DecidableEq
structure R where
 d:Option Nat
 k:K
 xs:List X
 gd:Option (Nat×Bool):=none
 bef:Nat:=0
 s:Nat:=0
 deriving Inhabited,DecidableEq
inductive C where
 |skip
 |reg (rs:List R) (draw:Bool)
 |seq (a b:C)
 |cond (c:X) (a b:C)
 |block (id:Nat) (b:C)
 |loop (b:C) (clr:List Bool)
 |exit (id:Nat)
 |ret
 |rf (x:X) (s:Nat) (ps:List Nat) (a b:C)
 |mr (it nx more out:Nat) (b:C) (clr:List Bool)
 |mq (p:C) (id it nx more out:Nat) (b:C) (clr:List Bool) (rest:C) (msk:List Bool) (drop:List Nat)
 |bad
 deriving Inhabited,DecidableEq
inductive Ob where
 |blk (cs:List AV) (esz:Nat) (ag ti fz:Bool)
 |mpo (es:List (AV×AV)) (bs:List Nat) (ck:Nat)
 |itr (mk me since:Nat) (seen:List Nat) (last:Nat)
 |lp (st b:Nat) (env:List AV) (ps:List Nat) (ca cb:C)
 |dead
 deriving Inhabited
structure Ent where
 k:Nat
 e:Nat
 o:Ob
 deriving Inhabited
abbrev Hp:=List Ent
def Hp.get:Hp->Nat->Option (Nat×Ob)
 |[],_=>none
 |x::r,k=>if x.k=k then some (x.e,x.o) else Hp.get r k
def Hp.put:Hp->Nat->Nat->Ob->Hp
 |[],k,e,o=>[⟨k,e,o⟩]
 |x::r,k,e,o=>if k<x.k then ⟨k,e,o⟩::x::r else if x.k=k then ⟨k,e,o⟩::r else x::Hp.put r k e o
def Hp.next(h:Hp)(k:Nat):Nat:=match h.get k with|some (e,_)=>e+1|none=>0
def AV.cells:AV->List AV
 |.agg cs=>cs
 |v=>[v]
def AV.isAgg:AV->Bool
 |.agg _=>true
 |_=>false
def AV.one:AV->Bool
 |.top|.agg _|.tup _|.os .. => false
 |_=>true
def bC:List AV->Bool
 |[]=>true
 |x::r=>x.one&&bC r
def AV.fits(v:AV)(sz:Nat)(ag:Bool):Bool:=
 match v with
 |.agg cs=>ag&&cs.length==sz
 |.top|.tup _|.os .. => false
 |_ => !ag&&sz==1
mutual
def AV.tree:AV->Bool
 |.rf ..|.pt ..|.mp ..|.yl ..|.os .. => false
 |.agg cs|.tup cs=>treeL cs
 |.sl _ es _=>treeL es
 |.fp v|.ifc v|.ift _ v|.fnm _ v=>v.tree
 |.fn _ cs=>treeL cs
 |_=>true
def treeL:List AV->Bool
 |[]=>true
 |x::r=>x.tree&&treeL r
end
mutual
def AV.flat:AV->Bool
 |.rf ..|.pt ..|.mp ..|.yl ..|.fp _=>false
 |.agg cs|.tup cs=>DA cs
 |.sl _ es _=>es.isEmpty
 |.ifc v|.ift _ v|.fnm _ v=>v.flat
 |.fn _ cs=>DA cs
 |.os es _ _=>DA es
 |_=>true
def DA:List AV->Bool
 |[]=>true
 |x::r=>x.flat&&DA r
end
def jS(esz:Nat)(ag:Bool):Nat->List AV->Option (List AV)
 |0,_=>some []
 |n+1,cs=>
  if ag then
   if cs.length<esz then none else (jS esz ag n (cs.drop esz)).map (.agg (cs.take esz) :: ·)
  else
   match esz,cs with
   |1,c::r=>if c.isAgg then none else (jS esz ag n r).map (c :: ·)
   |_,_=>none
def aP(esz:Nat)(ag:Bool):List AV->Option (List AV)
 |[]=>some []
 |x::r=>if x.fits esz ag&&bC x.cells then (aP esz ag r).map (x.cells ++ ·) else none
def mapS(f:AV->Option (AV×List Nat)):List AV->Option (List AV×List Nat)
 |[]=>some ([],[])
 |x::r=>
  match f x with
  |none=>none
  |some (y,s)=>
   match mapS f r with
   |none=>none
   |some (l,s')=>some (y::l,s++s')
def snap:Nat->Hp->AV->Option (AV×List Nat)
 |0,_,_=>none
 |d+1,h,v=>
  if v.tree then some (v,[]) else
  match v with
  |.agg cs=>(mapS (snap d h) cs).map fun(l,s)=>(.agg l,s)
  |.tup cs=>(mapS (snap d h) cs).map fun(l,s)=>(.tup l,s)
  |.sl nl es cl=>(mapS (snap d h) es).map fun(l,s)=>(.sl nl l cl,s)
  |.ifc v=>(snap d h v).map fun(x,s)=>(.ifc x,s)
  |.ift t v=>(snap d h v).map fun(x,s)=>(.ift t x,s)
  |.fnm t v=>(snap d h v).map fun(x,s)=>(.fnm t x,s)
  |.fn f cs=>(mapS (snap d h) cs).map fun(l,s)=>(.fn f l,s)
  |.rf k e off len cap=>
   match h.get k with
   |some (e',.blk cs esz ag ti _)=>
    if e'=e then
     match jS esz ag len (cs.drop off) with
     |some es=>(mapS (snap d h) es).map fun(l,s)=>(.sl false l (ti&&len==cap),k::s)
     |none=>none
    else none
   |_=>none
  |.pt k e off=>
   match h.get k with
   |some (e',.blk cs esz ag _ _)=>
    if e'=e/\off=0/\esz=cs.length then
     match mapS (snap d h) cs with
     |some (l,s)=>if ag then some (.fp (.agg l),k::s) else match l with|[v]=>if v.isAgg then none else some (.fp v,k::s)|_=>none
     |none=>none
    else none
   |_=>none
  |_=>none
def depth:Nat:=64
def aI(h:Hp):List Nat->List Ent
 |[]=>[]
 |k::r=>
  match h.get k with
  |some (e,.blk cs esz ag ti false)=>⟨k,e,.blk cs esz ag ti true⟩::aI (h.put k e (.blk cs esz ag ti true)) r
  |_=>aI h r
def aM(h:Hp):List Ent->Hp
 |[]=>h
 |x::r=>aM (h.put x.k x.e x.o) r
def conv(h:Hp)(v:AV):Option AV:=
 match v with
 |.rf k e off len cap=>
  match h.get k with
  |some (e',.blk cs esz ag _ false)=>
   if e'=e then
    match jS esz ag len (cs.drop off) with
    |some es=>
     match mapS (snap depth h) es with
     |some (l,s)=>if s.contains k then none else some (.os l esz ag)
     |none=>none
    |none=>none
   else none
  |_=>(snap depth h (.rf k e off len cap)).map (·.1)
 |v=>(snap depth h v).map (·.1)
def hU(h:Hp)(k:Nat)(th:Bool)(r:AV):Option (AV×List Ent):=
 match r with
 |.os es esz ag=>
  if th then
   match aP esz ag es with
   |some cs=>some (.rf k (h.next k) 0 es.length es.length,[⟨k,h.next k,.blk cs esz ag false false⟩])
   |none=>none
  else some (.sl false es false,[])
 |v=>some (v,[])
def wr(k:IntKind)(n:Int):Int:=
 match k with
 |.i64=>if -9223372036854775808<=n/\n<=9223372036854775807 then n else k.wrap n
 |.u8=>if 0<=n/\n<=255 then n else k.wrap n
 |.u64=>if 0<=n/\n<=18446744073709551615 then n else k.wrap n
 |.i32=>if -2147483648<=n/\n<=2147483647 then n else k.wrap n
 |.u32=>if 0<=n/\n<=4294967295 then n else k.wrap n
 |_=>k.wrap n
def bits(k:IntKind)(f:BitVec k.bits->BitVec k.bits->BitVec k.bits)(a b:Int):AV:=
 .int k (k.wrap (f (BitVec.ofInt k.bits a) (BitVec.ofInt k.bits b)).toNat)
def aHp(op:BinOp)(k:IntKind)(a b:Int):Option AV:=
 match op with
 |.add=>some (.int k (wr k (a+b)))
 |.sub=>some (.int k (wr k (a-b)))
 |.mul=>some (.int k (wr k (a*b)))
 |.quo=>if b=0 then none else some (.int k (wr k (a.tdiv b)))
 |.rem=>if b=0 then none else some (.int k (a.tmod b))
 |.and=>some (bits k (· &&& ·) a b)
 | .or=>some (bits k (· ||| ·) a b)
 |.xor=>some (bits k (· ^^^ ·) a b)
 |.andNot=>some (bits k (λx y=>x &&& ~~~y) a b)
 |.eql=>some (.bool (decide (a=b)))
 |.neq=>some (.bool (!decide (a=b)))
 |.lss=>some (.bool (decide (a<b)))
 |.leq=>some (.bool (decide (a<=b)))
 |.gtr=>some (.bool (decide (b<a)))
 |.geq=>some (.bool (decide (b<=a)))
 |_=>none
def W4(op:BinOp)(a b:List UInt8):Option AV:=
 match op with
 |.add=>if a.length+b.length<=9223372036854775807 then some (.str (a++b)) else none
 |.eql=>some (.bool (decide (a=b)))
 |.neq=>some (.bool (!decide (a=b)))
 |.lss=>some (.bool (Op.bytesLess a b))
 | .leq=>some (.bool (Op.bytesLess a b||decide (a=b)))
 | .gtr=>some (.bool (!(Op.bytesLess a b||decide (a=b))))
 |.geq=>some (.bool (!Op.bytesLess a b))
 |_=>none
def bin(op:BinOp)(x y:AV):Option AV:=
 match x,y with
 |.int k a,.int k' b=>
  match op with
  |.shl=>if b<0 then none else some (.int k (k.wrap (a*2 ^ (min b.toNat k.bits))))
  |.shr=>if b<0 then none else some (.int k (a.fdiv (2 ^ (min b.toNat k.bits))))
  |_=>if k=k' then aHp op k a b else none
 |.str a,.str b=>W4 op a b
 |_,_=>none
def AV.isNil:Nat->AV->Option Bool
 |0,.nilp=>some true
 |0,.fp _=>some false
 |0,.pt .. => some false
 |1,.sl nl _ _=>some nl
 |1,.rf .. => some false
 |2,.nilm=>some true
 |2,.mp .. => some false
 |3,.nilf=>some true
 |3,.fn .. => some false
 |3,.fnm .. => some false
 |4,.nili=>some true
 |4,.ifc _=>some false
 |4,.ift .. => some false
 |_,_=>none
def eq1:AV->AV->Option Bool
 |.int k a,.int k' b=>if k=k' then some (decide (a=b)) else none
 |.str a,.str b=>some (decide (a=b))
 |.bool a,.bool b=>some (a==b)
 |_,_=>none
def eqC:List Nat->List AV->List AV->Option Bool
 |[],[],[]=>some true
 |q::qs,x::r,y::s=>
  match (match q,x,y with
   |0,.int k a,.int k' b=>if k=k' then some (decide (a=b)) else none
   |1,.str a,.str b=>some (decide (a=b))
   |2,.bool a,.bool b=>some (a==b)
   |_,_,_=>none),eqC qs r s with
  |some a,some b=>some (a&&b)
  |_,_=>none
 |_,_,_=>none
inductive Eff where
 |pat (rd:List Nat) (pa:List Ent)
 |whole (h:Hp)
 |all (pa:List Ent)
def Eff.app(h:Hp):Eff->Hp
 |.pat _ pa=>aM h pa
 |.whole h'=>h'
 |.all pa=>aM h pa
def val(v:AV):Option (AV×Eff):=some (v,.pat [] [])
def eY(cs:List AV)(off sz:Nat)(ag:Bool):Option AV:=
 if ag then if off+sz<=cs.length then some (.agg ((cs.drop off).take sz)) else none
 else cs[off]?
def eF(cs:List AV)(off:Nat)(new:List AV):List AV:=cs.take off++new++cs.drop (off+new.length)
def oB(zero:List AV):List (Nat×Nat)->List AV->Option (List AV)
 |[],[]=>some zero
 |(off,sz)::ps,v::vs=>
  if v.cells.length=sz/\off+sz<=zero.length/\v.fits sz v.isAgg then oB (eF zero off v.cells) ps vs else none
 |_,_=>none
def nM(h:Hp)(k:Nat)(o:Ob)(v:Nat->AV):Option (AV×Eff):=
 some (v (h.next k),.pat [k] [⟨k,h.next k,o⟩])
def bM(h:Hp)(esz:Nat)(ag:Bool):AV->Option (List AV×Nat×List Nat)
 |.sl _ es _=>(aP esz ag es).map λcs=>(cs,es.length,[])
 |.str s=>if esz=1/\ag=false then some (s.map λb => .int .u8 b.toNat,s.length,[]) else none
 |.rf k e off len _=>
  match h.get k with
  |some (e',.blk cs _ _ _ _)=>
   if e'=e/\off+len*esz<=cs.length/\bC ((cs.drop off).take (len*esz)) then some ((cs.drop off).take (len*esz),len,[k]) else none
  |_=>none
 |_=>none
def nE:List AV->Option (List UInt8)
 |[]=>some []
 |.int .u8 n::r=>if 0<=n/\n<=255 then (nE r).map (UInt8.ofNat n.toNat :: ·) else none
 |_=>none
def lG(h:Hp)(k0 esz:Nat)(ag:Bool)(bytes:Nat)(base:AV)(src:List AV)(n:Nat)(rd:List Nat):Option (AV×Eff):=
 match base with
 |.sl nl es cl=>
  if n=0 then some (base,.pat rd [])
  else if (nl||cl)&&decide (es.length+n<=1073741824)&&decide (bytes<=65536) then
   match aP esz ag es with
   |some cs=>some (.rf k0 (h.next k0) 0 (es.length+n) (es.length+n),.pat (k0::rd) [⟨k0,h.next k0,.blk (cs++src) esz ag false false⟩])
   |none=>none
  else none
 |.rf k e off len cap=>
  match h.get k with
  |some (e',.blk cs esz' ag' ti fz)=>
   if e'=e/\esz'=esz/\ag'=ag/\off+len*esz<=cs.length then
    if n=0 then some (base,.pat (k::rd) [])
    else if len+n<=cap then
     if fz then none else some (.rf k e off (len+n) cap,.pat (k::rd) [⟨k,e,.blk (eF cs (off+len*esz) src) esz ag ti fz⟩])
    else if decide (len+n<=1073741824)&&decide (bytes<=65536) && !(k==k0) then
     if ti then some (.rf k0 (h.next k0) 0 (len+n) (len+n),.pat (k0::k::rd) [⟨k0,h.next k0,.blk ((cs.drop off).take (len*esz)++src) esz ag false false⟩])
     else if fz then none
     else some (.rf k0 (h.next k0) 0 (len+n) (len+n),.pat (k0::k::rd) [⟨k,e,.dead⟩,⟨k0,h.next k0,.blk ((cs.drop off).take (len*esz)++src) esz ag false false⟩])
    else if decide (len+n<=1073741824)&&decide (bytes<=65536) && !fz then
     some (.rf k0 (e+1) 0 (len+n) (len+n),.pat (k::rd) [⟨k0,e+1,.blk ((cs.drop off).take (len*esz)++src) esz ag false false⟩])
    else none
   else none
  |_=>none
 |_=>none
def kQ(h:Hp)(esz:Nat)(x:AV)(lo hi mx:Option Int):Option (AV×Eff):=
 let l:=lo.getD 0
 match x with
 |.sl nl es cl=>
  let hh:=hi.getD es.length
  let m:=mx.getD hh
  if 0<=l/\l<=hh/\hh<=m/\m<=es.length/\(es.all λv=>v.cells.length==esz) then
   val (.sl nl ((es.drop l.toNat).take (hh.toNat-l.toNat)) (if mx.isSome then m==hh else (nl||cl)&&hh==es.length))
  else none
 |.rf k e off len cap=>
  match h.get k with
  |some (e',.blk _ esz' _ ti _)=>
   let hh:=hi.getD len
   let m:=mx.getD cap
   if e'=e/\esz'=esz/\0<=l/\l<=hh/\hh<=m/\m<=cap/\(ti||mx.isNone)=true/\(l=0\/l<m\/ti=true) then
    some (.rf k e (if m=l then off else off+l.toNat*esz) (hh.toNat-l.toNat) (m.toNat-l.toNat),.pat [k] [])
   else if e'=e/\0<=l/\l=hh/\hh<=m/\m<=cap then some (.sl false [] false,.pat [k] [])
   else none
  |_=>none
 |_=>none
def jG(b:Bool):List AV->Option (Option Int×List AV)
 |[]=>if b then none else some (none,[])
 |.int k n::r=>if b then some (some n,r) else some (none,.int k n::r)
 |x::r=>if b then none else some (none,x::r)
def fX:List (AV×AV)->AV->Option (Option AV)
 |[],_=>some none
 |(k,v)::r,x=>
  match eq1 x k with
  |some true=>some (some v)
  |some false=>fX r x
  |none=>none
def iX:List (AV×AV)->AV->AV->List (AV×AV)
 |[],x,v=>[(x,v)]
 |(k,u)::r,x,v=>match eq1 x k with|some true=>(x,v)::r|_=>(k,u)::iX r x v
def aEZ:Option AV->List Nat->Nat->List Nat
 |some _,bs,_=>bs
 |none,bs,ck=>bs++[ck]
def aCy:Option AV->Nat->Nat
 |some _,ck=>ck
 |none,ck=>ck+1
def rY:List (AV×AV)->List Nat->AV->List Nat
 |(k,_)::r,b::bs,x=>match eq1 x k with|some true=>bs|_=>b::rY r bs x
 |_,bs,_=>bs
def qB:List (AV×AV)->List Nat->Nat->Option (AV×AV)
 |x::r,b::bs,s=>if b=s then some x else qB r bs s
 |_,_,_=>none
def nN:List (AV×AV)->AV->List (AV×AV)
 |[],_=>[]
 |(k,u)::r,x=>match eq1 x k with|some true=>r|_=>(k,u)::nN r x
def vV:List (AV×AV)->List Nat->AV->Option Nat
 |(k,_)::r,b::bs,x=>match eq1 x k with|some true=>some b|_=>vV r bs x
 |_,_,_=>none
def LX:List (AV×AV)->List Nat->Nat->AV->List (AV×AV)
 |(k,u)::r,b::bs,s,v=>if b=s then (k,v)::r else (k,u)::LX r bs s v
 |l,_,_,_=>l
def AV.keyQ:Nat->AV->Bool
 |0,.int .. => true
 |1,.str _=>true
 |2,.bool _=>true
 |_,_=>false
def AV.key:AV->Bool
 |.int ..|.str _|.bool _=>true
 |_=>false
def min2:AV->AV->Option AV
 |.int k x,.int k' y=>if k=k' then some (.int k (if y<x then y else x)) else none
 |_,_=>none
def max2:AV->AV->Option AV
 |.int k x,.int k' y=>if k=k' then some (.int k (if x<y then y else x)) else none
 |_,_=>none
def oY(f:AV->AV->Option AV):AV->List AV->Option AV
 |x,[]=>some x
 |x,y::r=>match f x y with|some z=>oY f z r|none=>none
def bxA(q:Nat)(x y c:Int):AV:=
 match q with
 |0 => .tup [.int .u64 ((x+y+c) % 18446744073709551616),.int .u64 ((x+y+c) / 18446744073709551616)]
 |_ => .tup [.int .u64 ((x+18446744073709551616-y-c) % 18446744073709551616),.int .u64 (if x<y+c then 1 else 0)]
def ZK:List UInt8->List UInt8->Int
 |[],[]=>0
 |[],_::_ => -1
 |_::_,[]=>1
 |a::r,b::s=>bif a.toNat.blt b.toNat then -1 else bif b.toNat.blt a.toNat then 1 else ZK r s
def vH:List UInt8->Nat->Nat->Int
 |[],_,_ => -1
 |b::l,c,i=>bif b.toNat.beq c then (i:Int) else vH l c (i+1)
def AQ:List UInt8->Nat->Nat->Nat
 |[],_,n=>n
 |b::l,c,n=>AQ l c (bif b.toNat.beq c then n+1 else n)
def byA(q:Nat)(x y:AV):Option AV:=
 match x,y with
 |.str a,.str b=>if q=2 then some (.int .i64 (ZK a b)) else none
 |.str a,.int .u8 c=>if 0<=c/\c<=255 then (if q=3 then some (.int .i64 (vH a c.toNat 0)) else if q=4 then some (.int .i64 (AQ a c.toNat 0)) else none) else none
 |_,_=>none
def zN(h:Hp)(k0:Nat)(x:AV):Option (AV×Eff):=
 match x with
 |.rf k e off len cap=>
  match h.get k with
  |some (e',.blk cs esz ag ti false)=>
   if e'=e/\off<=cs.length then
    some (.rf k0 (h.next k0) 0 len cap,.pat [k0,k] (if k=k0 then [⟨k0,h.next k0,.blk (cs.drop off) esz ag false false⟩] else [⟨k,e,.dead⟩,⟨k0,h.next k0,.blk (cs.drop off) esz ag false false⟩]))
   else none
  |_=>none
 |x=>val x
def op1(h:Hp)(k0:Nat)(o:K)(xs:List AV):Option (AV×Eff):=
 match o,xs with
 |.mov,[x]=>val x
 |.pick,[c,a,b]=>match c with|.bool t=>val (if t then a else b)|_=>none
 |.box,[v]=>if v.fits v.cells.length v.isAgg then nM h k0 (.blk v.cells v.cells.length v.isAgg true false) (λe => .pt k0 e 0) else none
 |.alloc zero ag,[]=>nM h k0 (.blk zero zero.length ag true false) (λe => .pt k0 e 0)
 |.build zero parts,vs=>(oB zero parts vs).bind λcs=>val (.agg cs)
 |.mkSl esz ag own,vs=>
  if own then
   match aP esz ag vs with
   |some cs=>nM h k0 (.blk cs esz ag true false) (λe => .rf k0 e 0 vs.length vs.length)
   |none=>none
  else if vs.all λv=>v.fits esz ag then val (.sl false vs true) else none
 |.load sz ag,[p]=>match p with
  |.fp v=>if v.fits sz ag then val v else none
  |.pt k e off=>match h.get k with
   |some (e',.blk cs _ _ _ _)=>if e'=e then (eY cs off sz ag).map λv=>(v,.pat [k] []) else none
   |_=>none
  |_=>none
 |.store sz ag,[p,v]=>match p with
  |.pt k e off=>match h.get k with
   |some (e',.blk cs esz ag' ti false)=>
    if e'=e/\off+sz<=cs.length/\v.fits sz ag/\bC v.cells then
     some (.tup [],.pat [k] [⟨k,e,.blk (eF cs off v.cells) esz ag' ti false⟩])
    else none
   |_=>none
  |_=>none
 |.nilc,[x]=>match x with|.pt ..|.fp _=>val x|_=>none
 |.bin op,[x,y]=>(bin op x y).bind val
 |.eqn q ng,[x]=>match x.isNil q with|some b=>val (.bool (if ng then !b else b))|none=>none
 |.beq ng,[x,y]=>match x,y with
  |.bool a,.bool b=>val (.bool (if ng then !(a==b) else a==b))
  |_,_=>none
 |.eqs ng qs,[x,y]=>match x,y with
  |.agg cs,.agg ds=>match eqC qs cs ds with|some b=>val (.bool (if ng then !b else b))|none=>none
  |_,_=>none
 |.un op,[x]=>match op,x with
  |.neg,.int k n=>val (.int k (wr k (0-n)))
  |.not,.bool b=>val (.bool (!b))
  |.xor,.int k n=>val (bits k (· ^^^ ·) (if k.signed then -1 else k.max) n)
  |_,_=>none
 |.cvi k,[x]=>match x with|.int _ n=>val (.int k (wr k n))|_=>none
 |.cvs,[x]=>match x with|.str s=>val (.str s)|_=>none
 |.s2b,[x]=>match x with|.str s=>val (.sl false (s.map λb => .int .u8 b.toNat) false)|_=>none
 |.b2s,[x]=>match (match x with|.str _=>none|x=>bM h 1 false x) with
  |some (cs,_,rd)=>match nE cs with
   |some bs=>some (.str bs,.pat rd [])
   |none=>none
  |none=>none
 |.fld off sz ag,[x]=>match x with|.agg cs=>(eY cs off sz ag).bind val|_=>none
 |.fad off sz ag,[p]=>match p with
  |.fp (.agg cs)=>(eY cs off sz ag).bind λv=>if v.fits sz ag then val (.fp v) else none
  |.pt k e o=>val (.pt k e (o+off))
  |_=>none
 |.iad esz ag arr,[x,i]=>match i with
  |.int _ n=>match arr,x with
   |none,.sl _ es _=>if 0<=n then match es[n.toNat]? with
     |some v=>if v.fits esz ag then val (.fp v) else none
     |none=>none
    else none
   |none,.rf k e off len _=>if 0<=n/\n<len then val (.pt k e (off+n.toNat*esz)) else none
   |some len,.fp (.agg cs)=>if 0<=n/\n<len then (eY cs (n.toNat*esz) esz ag).bind λv=>if v.fits esz ag then val (.fp v) else none else none
   |some len,.pt k e off=>if 0<=n/\n<len then val (.pt k e (off+n.toNat*esz)) else none
   |_,_=>none
  |_=>none
 |.ixs,[x,i]=>match x,i with
  |.str s,.int _ n=>if 0<=n then match s[n.toNat]? with|some b=>val (.int .u8 b.toNat)|none=>none else none
  |_,_=>none
 |.ixa len esz ag,[x,i]=>match x,i with
  |.agg cs,.int _ n=>if 0<=n/\n<len then (eY cs (n.toNat*esz) esz ag).bind val else none
  |_,_=>none
 |.slc esz lo hi mx,x::r=>
  match jG lo r with
  |some (l,r)=>match jG hi r with
   |some (hh,r)=>match jG mx r with
    |some (m,[])=>kQ h esz x l hh m
    |_=>none
   |none=>none
  |none=>none
 |.sls lo hi,x::r=>match x with
  |.str s=>match jG lo r with
   |some (l,r)=>match jG hi r with
    |some (hh,[])=>
     let l:=l.getD 0
     let hh:=hh.getD s.length
     if 0<=l/\l<=hh/\hh<=s.length then val (.str ((s.drop l.toNat).take (hh.toNat-l.toNat))) else none
    |_=>none
   |none=>none
  |_=>none
 |.sla len esz lo hi,x::r=>match x with
  |.pt k e off=>match jG lo r with
   |some (l,r)=>match jG hi r with
    |some (hh,[])=>
     let l:=l.getD 0
     let hh:=hh.getD len
     match h.get k with
     |some (e',.blk cs esz' _ true _)=>
      if e'=e/\esz'=esz/\0<=l/\l<=hh/\hh<=len/\off+len*esz<=cs.length then
       some (.rf k e (if (len:Int)=l then off else off+l.toNat*esz) (hh.toNat-l.toNat) (len-l.toNat),.pat [k] [])
      else none
     |_=>none
    |_=>none
   |none=>none
  |_=>none
 |.mks esz ag bytes zero,[l,c]=>match l,c with
  |.int _ l,.int _ c=>
   if 0<=l/\l<=c/\c<=1073741824/\bytes<=65536/\zero.length=esz then
    nM h k0 (.blk (List.replicate c.toNat zero).flatten esz ag true false) (λe => .rf k0 e 0 l.toNat c.toNat)
   else none
  |_,_=>none
 |.len 0,[x]=>match x with|.str s=>val (.int .i64 s.length)|_=>none
 |.len 1,[x]=>match x with
  |.sl _ es _=>val (.int .i64 es.length)
  |.rf _ _ _ len _=>val (.int .i64 len)
  |_=>none
 |.len 2,[x]=>match x with
  |.nilm=>val (.int .i64 0)
  |.mp k e=>match h.get k with
   |some (e',.mpo es _ _)=>if e'=e then some (.int .i64 es.length,.pat [k] []) else none
   |_=>none
  |_=>none
 |.lenc n,[_]=>val (.int .i64 n)
 |.cap,[x]=>match x with
  | .sl nl es cl=>if nl||cl then val (.int .i64 es.length) else none
  |.rf k e _ _ cap=>match h.get k with
   |some (e',.blk _ _ _ true _)=>if e'=e then some (.int .i64 cap,.pat [k] []) else none
   |_=>none
  |_=>none
 |.app esz ag bytes,[x,y]=>match bM h esz ag y with
  |some (cs,n,rd)=>lG h k0 esz ag bytes x cs n rd
  |none=>none
 |.apz esz ag bytes zero,[x,y]=>match y with
  |.int _ n=>if 0<=n/\n<=1073741824/\bytes<=65536/\zero.length=esz/\bC zero then
    lG h k0 esz ag bytes x (List.replicate n.toNat zero).flatten n.toNat [] else none
  |_=>none
 |.cpy esz ag,[x,y]=>match x with
  |.rf k e off len _=>match h.get k,bM h esz ag y with
   |some (e',.blk cs esz' ag' ti false),some (new,n,rd)=>
    if e'=e/\off+len*esz<=cs.length then
     some (.int .i64 (min n len:Nat),.pat (k::rd) [⟨k,e,.blk (eF cs off (new.take (min n len*esz))) esz' ag' ti false⟩])
    else none
   |_,_=>none
  |_=>none
 |.clr esz zero,[x]=>match x with
  |.sl _ [] _=>val (.tup [])
  |.rf k e off len _=>match h.get k with
   |some (e',.blk cs esz' ag' ti false)=>
    if e'=e/\off+len*esz<=cs.length/\zero.length=esz/\bC zero then
     some (.tup [],.pat [k] [⟨k,e,.blk (eF cs off (List.replicate len zero).flatten) esz' ag' ti false⟩])
    else none
   |_=>none
  |_=>none
 |.mn,x::r=>(oY min2 x r).bind val
 |.mx,x::r=>(oY max2 x r).bind val
 |.ext i,[x]=>match x with|.tup vs=>(vs[i]?).bind val|_=>none
 |.mki,[x]=>if x.fits x.cells.length x.isAgg then val (.ifc x) else none
 |.mkf f,cs=>val (.fn f cs)
 |.mkm,[]=>nM h k0 (.mpo [] [] 0) (λe => .mp k0 e)
 |.mlk q zero ok,[m,x]=>match m with
  |.nilm=>if x.keyQ q then val (if ok then .tup [zero,.bool false] else zero) else none
  |.mp k e=>match h.get k with
   |some (e',.mpo es _ _)=>if e'=e/\x.keyQ q then match fX es x with
     |some (some v)=>some (if ok then .tup [v,.bool true] else v,.pat [k] [])
     |some none=>some (if ok then .tup [zero,.bool false] else zero,.pat [k] [])
     |none=>none
    else none
   |_=>none
  |_=>none
 |.mup q,[m,x,v]=>match m with
  |.mp k e=>match h.get k with
   |some (e',.mpo es bs ck)=>if e'=e/\x.keyQ q/\v.fits v.cells.length v.isAgg then match fX es x with
     |some u=>some (.tup [],.pat [k] [⟨k,e,.mpo (iX es x v) (aEZ u bs ck) (aCy u ck)⟩])
     |none=>none
    else none
   |_=>none
  |_=>none
 |.mdel q,[m,x]=>match m with
  |.nilm=>if x.keyQ q then val (.tup []) else none
  |.mp k e=>match h.get k with
   |some (e',.mpo es bs ck)=>if e'=e/\x.keyQ q then match fX es x with
     |some _=>some (.tup [],.pat [k] [⟨k,e,.mpo (nN es x) (rY es bs x) ck⟩])
     |none=>none
    else none
   |_=>none
  |_=>none
 |.men q zero,[m,x]=>match m with
  |.mp k e=>match h.get k with
   |some (e',.mpo es bs ck)=>if e'=e/\x.keyQ q/\zero.fits zero.cells.length zero.isAgg then match fX es x with
     |some (some v)=>match vV es bs x with
      |some b=>some (.tup [v,.int .i64 b],.pat [k] [⟨k,e,.mpo (iX es x v) bs ck⟩])
      |none=>none
     |some none=>some (.tup [zero,.int .i64 ck],.pat [k] [⟨k,e,.mpo (iX es x zero) (bs++[ck]) (ck+1)⟩])
     |none=>none
    else none
   |_=>none
  |_=>none
 |.mes,[m,s,x]=>match m with
  |.mp k e=>match s with
   |.int _ n=>match h.get k with
    |some (e',.mpo es bs ck)=>if e'=e/\x.fits x.cells.length x.isAgg/\0<=n then match qB es bs n.toNat with
      |some _=>some (.tup [],.pat [k] [⟨k,e,.mpo (LX es bs n.toNat x) bs ck⟩])
      |none=>none
     else none
    |_=>none
   |_=>none
  |_=>none
 |.bx q,[x,y,c]=>match x,y,c with
  |.int .u64 x,.int .u64 y,.int .u64 c=>if 0<=x/\0<=y/\0<=c/\c<=1/\y<=18446744073709551615 then val (bxA q x y c) else none
  |_,_,_=>none
 |.bx q,[x,y]=>(byA q x y).bind val
 |.rng,[m]=>match m with
  |.mp k e=>match h.get k with
   |some (e',.mpo _ _ ck)=>if e'=e then some (.pt k0 (h.next k0) 0,.pat [k0,k] [⟨k0,h.next k0,.itr k e ck [] ck⟩]) else none
   |_=>none
  |_=>none
 |.ent,[x]=>match x with
  |.pt k e off=>match h.get k with
   |some (e',.itr mk me _ seen last)=>if e'=e/\off=0 then match seen.getLast?,h.get mk with
     |some s,some (e2,.mpo es bs ck)=>if e2=me/\ck=last then match qB es bs s with
       |some (a,v)=>some (.tup [a,v],.pat [k,mk] [])
       |none=>none
      else none
     |_,_=>none
    else none
   |_=>none
  |_=>none
 |.mkZ esz ag,vs=>match mapS (snap depth h) vs with
  |some (ts,keys)=>if ts.all λv=>v.fits esz ag then some (.sl false ts true,.pat keys (aI h keys)) else none
  |none=>none
 |.frz,vs=>match mapS (snap depth h) vs with
  |some ([t],keys)=>some (t,.pat keys (aI h keys))
  |_=>none
 |.mvk,[x]=>zN h k0 x
 |.mkM f,[x]=>val (.fnm f x)
 |.mkT t,[x]=>if x.fits x.cells.length x.isAgg then val (.ift t x) else none
 |.tas t no zero ok,[x]=>match x with
  |.ift t' v=>if t'=t then val (if ok then .tup [v,.bool true] else v) else if ok&&no.contains t' then val (.tup [zero,.bool false]) else none
  |.nili=>if ok then val (.tup [zero,.bool false]) else none
  |_=>none
 |_,_=>none
def W5(op:BinOp)(x y:AV):Option AV:=
 match x,y with
 |.str a,.str b=>
  match op with
  |.eql=>some (.bool (eqS a b))
  |.neq=>some (.bool (!eqS a b))
  |_=>W4 op a b
 |x,y=>bin op x y
theorem aBz(op:BinOp)(x y:AV):W5 op x y=bin op x y:=by
 cases x<;>cases y<;>first
  |rfl
  |(cases op<;>first|rfl|simp only[W5,bin,W4,AH])
def PF(xs:List AV):Option (AV×Eff):=
 match xs with
 |[x]=>val x
 |_=>none
def VA(xs:List AV):Option (AV×Eff):=
 match xs with
 |[c,a,b]=>match c with|.bool t=>val (if t then a else b)|_=>none
 |_=>none
def fW(h:Hp)(k0:Nat)(xs:List AV):Option (AV×Eff):=
 match xs with
 |[v]=>if v.fits v.cells.length v.isAgg then nM h k0 (.blk v.cells v.cells.length v.isAgg true false) (λe => .pt k0 e 0) else none
 |_=>none
def xU(h:Hp)(k0:Nat)(zero:List AV)(ag:Bool)(xs:List AV):Option (AV×Eff):=
 match xs with
 |[]=>nM h k0 (.blk zero zero.length ag true false) (λe => .pt k0 e 0)
 |_=>none
def xS(zero:List AV)(parts:List (Nat×Nat))(xs:List AV):Option (AV×Eff):=
 match xs with
 |vs=>(oB zero parts vs).bind λcs=>val (.agg cs)
def FR(h:Hp)(k0:Nat)(esz:Nat)(ag:Bool)(own:Bool)(xs:List AV):Option (AV×Eff):=
 match xs with
 |vs=>
  if own then
   match aP esz ag vs with
   |some cs=>nM h k0 (.blk cs esz ag true false) (λe => .rf k0 e 0 vs.length vs.length)
   |none=>none
  else if vs.all λv=>v.fits esz ag then val (.sl false vs true) else none
def vK(h:Hp)(sz:Nat)(ag:Bool)(xs:List AV):Option (AV×Eff):=
 match xs with
 |[p]=>match p with
  |.fp v=>if v.fits sz ag then val v else none
  |.pt k e off=>match h.get k with
   |some (e',.blk cs _ _ _ _)=>if e'=e then (eY cs off sz ag).map λv=>(v,.pat [k] []) else none
   |_=>none
  |_=>none
 |_=>none
def xR(h:Hp)(sz:Nat)(ag:Bool)(xs:List AV):Option (AV×Eff):=
 match xs with
 |[p,v]=>match p with
  |.pt k e off=>match h.get k with
   |some (e',.blk cs esz ag' ti false)=>
    if e'=e/\off+sz<=cs.length/\v.fits sz ag/\bC v.cells then
     some (.tup [],.pat [k] [⟨k,e,.blk (eF cs off v.cells) esz ag' ti false⟩])
    else none
   |_=>none
  |_=>none
 |_=>none
def FQ(xs:List AV):Option (AV×Eff):=
 match xs with
 |[x]=>match x with|.pt ..|.fp _=>val x|_=>none
 |_=>none
def JP(op:BinOp)(xs:List AV):Option (AV×Eff):=
 match xs with
 |[x,y]=>(W5 op x y).bind val
 |_=>none
def PQ(ng:Bool)(xs:List AV):Option (AV×Eff):=
 match xs with
 |[x,y]=>match x,y with
  |.bool a,.bool b=>val (.bool (if ng then !(a==b) else a==b))
  |_,_=>none
 |_=>none
def PM(q:Nat)(ng:Bool)(xs:List AV):Option (AV×Eff):=
 match xs with
 |[x]=>match x.isNil q with|some b=>val (.bool (if ng then !b else b))|none=>none
 |_=>none
def wT(ng:Bool)(qs:List Nat)(xs:List AV):Option (AV×Eff):=
 match xs with
 |[x,y]=>match x,y with
  |.agg cs,.agg ds=>match eqC qs cs ds with|some b=>val (.bool (if ng then !b else b))|none=>none
  |_,_=>none
 |_=>none
def ZF(op:UnOp)(xs:List AV):Option (AV×Eff):=
 match xs with
 |[x]=>match op,x with
  |.neg,.int k n=>val (.int k (wr k (0-n)))
  |.not,.bool b=>val (.bool (!b))
  |.xor,.int k n=>val (bits k (· ^^^ ·) (if k.signed then -1 else k.max) n)
  |_,_=>none
 |_=>none
def PO(k:IntKind)(xs:List AV):Option (AV×Eff):=
 match xs with
 |[x]=>match x with|.int _ n=>val (.int k (wr k n))|_=>none
 |_=>none
def PN(xs:List AV):Option (AV×Eff):=
 match xs with
 |[x]=>match x with|.str s=>val (.str s)|_=>none
 |_=>none
def PC(xs:List AV):Option (AV×Eff):=
 match xs with
 |[x]=>match x with|.str s=>val (.sl false (s.map λb => .int .u8 b.toNat) false)|_=>none
 |_=>none
def PR(h:Hp)(xs:List AV):Option (AV×Eff):=
 match xs with
 |[x]=>match (match x with|.str _=>none|x=>bM h 1 false x) with
  |some (cs,_,rd)=>match nE cs with
   |some bs=>some (.str bs,.pat rd [])
   |none=>none
  |none=>none
 |_=>none
def fU(off:Nat)(sz:Nat)(ag:Bool)(xs:List AV):Option (AV×Eff):=
 match xs with
 |[x]=>match x with|.agg cs=>(eY cs off sz ag).bind val|_=>none
 |_=>none
def fV(off:Nat)(sz:Nat)(ag:Bool)(xs:List AV):Option (AV×Eff):=
 match xs with
 |[p]=>match p with
  |.fp (.agg cs)=>(eY cs off sz ag).bind λv=>if v.fits sz ag then val (.fp v) else none
  |.pt k e o=>val (.pt k e (o+off))
  |_=>none
 |_=>none
def uG(esz:Nat)(ag:Bool)(arr:Option Nat)(xs:List AV):Option (AV×Eff):=
 match xs with
 |[x,i]=>match i with
  |.int _ n=>match arr,x with
   |none,.sl _ es _=>if 0<=n then match es[n.toNat]? with
     |some v=>if v.fits esz ag then val (.fp v) else none
     |none=>none
    else none
   |none,.rf k e off len _=>if 0<=n/\n<len then val (.pt k e (off+n.toNat*esz)) else none
   |some len,.fp (.agg cs)=>if 0<=n/\n<len then (eY cs (n.toNat*esz) esz ag).bind λv=>if v.fits esz ag then val (.fp v) else none else none
   |some len,.pt k e off=>if 0<=n/\n<len then val (.pt k e (off+n.toNat*esz)) else none
   |_,_=>none
  |_=>none
 |_=>none
def PK(xs:List AV):Option (AV×Eff):=
 match xs with
 |[x,i]=>match x,i with
  |.str s,.int _ n=>if 0<=n then match s[n.toNat]? with|some b=>val (.int .u8 b.toNat)|none=>none else none
  |_,_=>none
 |_=>none
def PL(len:Nat)(esz:Nat)(ag:Bool)(xs:List AV):Option (AV×Eff):=
 match xs with
 |[x,i]=>match x,i with
  |.agg cs,.int _ n=>if 0<=n/\n<len then (eY cs (n.toNat*esz) esz ag).bind val else none
  |_,_=>none
 |_=>none
def oZ(h:Hp)(esz:Nat)(lo:Bool)(hi:Bool)(mx:Bool)(xs:List AV):Option (AV×Eff):=
 match xs with
 |x::r=>
  match jG lo r with
  |some (l,r)=>match jG hi r with
   |some (hh,r)=>match jG mx r with
    |some (m,[])=>kQ h esz x l hh m
    |_=>none
   |none=>none
  |none=>none
 |_=>none
def wR(lo:Bool)(hi:Bool)(xs:List AV):Option (AV×Eff):=
 match xs with
 |x::r=>match x with
  |.str s=>match jG lo r with
   |some (l,r)=>match jG hi r with
    |some (hh,[])=>
     let l:=l.getD 0
     let hh:=hh.getD s.length
     if 0<=l/\l<=hh/\hh<=s.length then val (.str ((s.drop l.toNat).take (hh.toNat-l.toNat))) else none
    |_=>none
   |none=>none
  |_=>none
 |_=>none
def PB(h:Hp)(len:Nat)(esz:Nat)(lo:Bool)(hi:Bool)(xs:List AV):Option (AV×Eff):=
 match xs with
 |x::r=>match x with
  |.pt k e off=>match jG lo r with
   |some (l,r)=>match jG hi r with
    |some (hh,[])=>
     let l:=l.getD 0
     let hh:=hh.getD len
     match h.get k with
     |some (e',.blk cs esz' _ true _)=>
      if e'=e/\esz'=esz/\0<=l/\l<=hh/\hh<=len/\off+len*esz<=cs.length then
       some (.rf k e (if (len:Int)=l then off else off+l.toNat*esz) (hh.toNat-l.toNat) (len-l.toNat),.pat [k] [])
      else none
     |_=>none
    |_=>none
   |none=>none
  |_=>none
 |_=>none
def PG(h:Hp)(k0:Nat)(esz:Nat)(ag:Bool)(bytes:Nat)(zero:List AV)(xs:List AV):Option (AV×Eff):=
 match xs with
 |[l,c]=>match l,c with
  |.int _ l,.int _ c=>
   if 0<=l/\l<=c/\c<=1073741824/\bytes<=65536/\zero.length=esz then
    nM h k0 (.blk (List.replicate c.toNat zero).flatten esz ag true false) (λe => .rf k0 e 0 l.toNat c.toNat)
   else none
  |_,_=>none
 |_=>none
def oC(h:Hp)(q:Nat)(xs:List AV):Option (AV×Eff):=
 match q,xs with
 |0,[x]=>match x with|.str s=>val (.int .i64 s.length)|_=>none
 |1,[x]=>match x with
  |.sl _ es _=>val (.int .i64 es.length)
  |.rf _ _ _ len _=>val (.int .i64 len)
  |_=>none
 |2,[x]=>match x with
  |.nilm=>val (.int .i64 0)
  |.mp k e=>match h.get k with
   |some (e',.mpo es _ _)=>if e'=e then some (.int .i64 es.length,.pat [k] []) else none
   |_=>none
  |_=>none
 |_,_=>none
def FT(n:Nat)(xs:List AV):Option (AV×Eff):=
 match xs with
 |[_]=>val (.int .i64 n)
 |_=>none
def PP(h:Hp)(xs:List AV):Option (AV×Eff):=
 match xs with
 |[x]=>match x with
  | .sl nl es cl=>if nl||cl then val (.int .i64 es.length) else none
  |.rf k e _ _ cap=>match h.get k with
   |some (e',.blk _ _ _ true _)=>if e'=e then some (.int .i64 cap,.pat [k] []) else none
   |_=>none
  |_=>none
 |_=>none
def o7(h:Hp)(k0:Nat)(esz:Nat)(ag:Bool)(bytes:Nat)(xs:List AV):Option (AV×Eff):=
 match xs with
 |[x,y]=>match bM h esz ag y with
  |some (cs,n,rd)=>lG h k0 esz ag bytes x cs n rd
  |none=>none
 |_=>none
def VC(h:Hp)(k0:Nat)(esz:Nat)(ag:Bool)(bytes:Nat)(zero:List AV)(xs:List AV):Option (AV×Eff):=
 match xs with
 |[x,y]=>match y with
  |.int _ n=>if 0<=n/\n<=1073741824/\bytes<=65536/\zero.length=esz/\bC zero then
    lG h k0 esz ag bytes x (List.replicate n.toNat zero).flatten n.toNat [] else none
  |_=>none
 |_=>none
def DF(h:Hp)(esz:Nat)(ag:Bool)(xs:List AV):Option (AV×Eff):=
 match xs with
 |[x,y]=>match x with
  |.rf k e off len _=>match h.get k,bM h esz ag y with
   |some (e',.blk cs esz' ag' ti false),some (new,n,rd)=>
    if e'=e/\off+len*esz<=cs.length then
     some (.int .i64 (min n len:Nat),.pat (k::rd) [⟨k,e,.blk (eF cs off (new.take (min n len*esz))) esz' ag' ti false⟩])
    else none
   |_,_=>none
  |_=>none
 |_=>none
def aCw(h:Hp)(esz:Nat)(zero:List AV)(xs:List AV):Option (AV×Eff):=
 match xs with
 |[x]=>match x with
  |.sl _ [] _=>val (.tup [])
  |.rf k e off len _=>match h.get k with
   |some (e',.blk cs esz' ag' ti false)=>
    if e'=e/\off+len*esz<=cs.length/\zero.length=esz/\bC zero then
     some (.tup [],.pat [k] [⟨k,e,.blk (eF cs off (List.replicate len zero).flatten) esz' ag' ti false⟩])
    else none
   |_=>none
  |_=>none
 |_=>none
def ZH(xs:List AV):Option (AV×Eff):=
 match xs with
 |x::r=>(oY min2 x r).bind val
 |_=>none
def ZG(xs:List AV):Option (AV×Eff):=
 match xs with
 |x::r=>(oY max2 x r).bind val
 |_=>none
def JO(i:Nat)(xs:List AV):Option (AV×Eff):=
 match xs with
 |[x]=>match x with|.tup vs=>(vs[i]?).bind val|_=>none
 |_=>none
def PI(xs:List AV):Option (AV×Eff):=
 match xs with
 |[x]=>if x.fits x.cells.length x.isAgg then val (.ifc x) else none
 |_=>none
def aCt(f:Nat)(xs:List AV):Option (AV×Eff):=
 match xs with
 |[x]=>val (.fnm f x)
 |_=>none
def aCs(t:Nat)(xs:List AV):Option (AV×Eff):=
 match xs with
 |[x]=>if x.fits x.cells.length x.isAgg then val (.ift t x) else none
 |_=>none
def aCp(t:Nat)(no:List Nat)(zero:AV)(ok:Bool)(xs:List AV):Option (AV×Eff):=
 match xs with
 |[x]=>match x with
  |.ift t' v=>if t'=t then val (if ok then .tup [v,.bool true] else v) else if ok&&no.contains t' then val (.tup [zero,.bool false]) else none
  |.nili=>if ok then val (.tup [zero,.bool false]) else none
  |_=>none
 |_=>none
def PJ(f:Nat)(xs:List AV):Option (AV×Eff):=
 match xs with
 |cs=>val (.fn f cs)
def PH(h:Hp)(k0:Nat)(xs:List AV):Option (AV×Eff):=
 match xs with
 |[]=>nM h k0 (.mpo [] [] 0) (λe => .mp k0 e)
 |_=>none
def wS(h:Hp)(q:Nat)(zero:AV)(ok:Bool)(xs:List AV):Option (AV×Eff):=
 match xs with
 |[m,x]=>match m with
  |.nilm=>if x.keyQ q then val (if ok then .tup [zero,.bool false] else zero) else none
  |.mp k e=>match h.get k with
   |some (e',.mpo es _ _)=>if e'=e/\x.keyQ q then match fX es x with
     |some (some v)=>some (if ok then .tup [v,.bool true] else v,.pat [k] [])
     |some none=>some (if ok then .tup [zero,.bool false] else zero,.pat [k] [])
     |none=>none
    else none
   |_=>none
  |_=>none
 |_=>none
def PE(h:Hp)(q:Nat)(xs:List AV):Option (AV×Eff):=
 match xs with
 |[m,x,v]=>match m with
  |.mp k e=>match h.get k with
   |some (e',.mpo es bs ck)=>if e'=e/\x.keyQ q/\v.fits v.cells.length v.isAgg then match fX es x with
     |some u=>some (.tup [],.pat [k] [⟨k,e,.mpo (iX es x v) (aEZ u bs ck) (aCy u ck)⟩])
     |none=>none
    else none
   |_=>none
  |_=>none
 |_=>none
def FS(h:Hp)(q:Nat)(xs:List AV):Option (AV×Eff):=
 match xs with
 |[m,x]=>match m with
  |.nilm=>if x.keyQ q then val (.tup []) else none
  |.mp k e=>match h.get k with
   |some (e',.mpo es bs ck)=>if e'=e/\x.keyQ q then match fX es x with
     |some _=>some (.tup [],.pat [k] [⟨k,e,.mpo (nN es x) (rY es bs x) ck⟩])
     |none=>none
    else none
   |_=>none
  |_=>none
 |_=>none
def aCv(h:Hp)(q:Nat)(zero:AV)(xs:List AV):Option (AV×Eff):=
 match xs with
 |[m,x]=>match m with
  |.mp k e=>match h.get k with
   |some (e',.mpo es bs ck)=>if e'=e/\x.keyQ q/\zero.fits zero.cells.length zero.isAgg then match fX es x with
     |some (some v)=>match vV es bs x with
      |some b=>some (.tup [v,.int .i64 b],.pat [k] [⟨k,e,.mpo (iX es x v) bs ck⟩])
      |none=>none
     |some none=>some (.tup [zero,.int .i64 ck],.pat [k] [⟨k,e,.mpo (iX es x zero) (bs++[ck]) (ck+1)⟩])
     |none=>none
    else none
   |_=>none
  |_=>none
 |_=>none
def aCu(h:Hp)(xs:List AV):Option (AV×Eff):=
 match xs with
 |[m,s,x]=>match m with
  |.mp k e=>match s with
   |.int _ n=>match h.get k with
    |some (e',.mpo es bs ck)=>if e'=e/\x.fits x.cells.length x.isAgg/\0<=n then match qB es bs n.toNat with
      |some _=>some (.tup [],.pat [k] [⟨k,e,.mpo (LX es bs n.toNat x) bs ck⟩])
      |none=>none
     else none
    |_=>none
   |_=>none
  |_=>none
 |_=>none
def aKC(q:Nat)(xs:List AV):Option (AV×Eff):=
 match xs with
 |[x,y,c]=>match x,y,c with
  |.int .u64 x,.int .u64 y,.int .u64 c=>if 0<=x/\0<=y/\0<=c/\c<=1/\y<=18446744073709551615 then val (bxA q x y c) else none
  |_,_,_=>none
 |[x,y]=>(byA q x y).bind val
 |_=>none
def PD(h:Hp)(k0:Nat)(xs:List AV):Option (AV×Eff):=
 match xs with
 |[m]=>match m with
  |.mp k e=>match h.get k with
   |some (e',.mpo _ _ ck)=>if e'=e then some (.pt k0 (h.next k0) 0,.pat [k0,k] [⟨k0,h.next k0,.itr k e ck [] ck⟩]) else none
   |_=>none
  |_=>none
 |_=>none
def VB(h:Hp)(xs:List AV):Option (AV×Eff):=
 match xs with
 |[x]=>match x with
  |.pt k e off=>match h.get k with
   |some (e',.itr mk me _ seen last)=>if e'=e/\off=0 then match seen.getLast?,h.get mk with
     |some s,some (e2,.mpo es bs ck)=>if e2=me/\ck=last then match qB es bs s with
       |some (a,v)=>some (.tup [a,v],.pat [k,mk] [])
       |none=>none
      else none
     |_,_=>none
    else none
   |_=>none
  |_=>none
 |_=>none
def aCr(h:Hp)(esz:Nat)(ag:Bool)(vs:List AV):Option (AV×Eff):=
 match mapS (snap depth h) vs with
 |some (ts,keys)=>if ts.all λv=>v.fits esz ag then some (.sl false ts true,.pat keys (aI h keys)) else none
 |none=>none
def aCq(h:Hp)(k0:Nat)(xs:List AV):Option (AV×Eff):=
 match xs with
 |[x]=>zN h k0 x
 |_=>none
def JN(h:Hp)(vs:List AV):Option (AV×Eff):=
 match mapS (snap depth h) vs with
 |some ([t],keys)=>some (t,.pat keys (aI h keys))
 |_=>none
def FF(h:Hp)(k0:Nat)(o:K)(xs:List AV):Option (AV×Eff):=
 match o with
 |.mov=>PF xs
 |.pick=>VA xs
 |.box=>fW h k0 xs
 |.alloc zero ag=>xU h k0 zero ag xs
 |.build zero parts=>xS zero parts xs
 |.mkSl esz ag own=>FR h k0 esz ag own xs
 |.load sz ag=>vK h sz ag xs
 |.store sz ag=>xR h sz ag xs
 |.nilc=>FQ xs
 |.bin op=>JP op xs
 |.beq ng=>PQ ng xs
 |.eqn q ng=>PM q ng xs
 |.eqs ng qs=>wT ng qs xs
 |.un op=>ZF op xs
 |.cvi k=>PO k xs
 |.cvs=>PN xs
 |.s2b=>PC xs
 |.b2s=>PR h xs
 |.fld off sz ag=>fU off sz ag xs
 |.fad off sz ag=>fV off sz ag xs
 |.iad esz ag arr=>uG esz ag arr xs
 |.ixs=>PK xs
 |.ixa len esz ag=>PL len esz ag xs
 |.slc esz lo hi mx=>oZ h esz lo hi mx xs
 |.sls lo hi=>wR lo hi xs
 |.sla len esz lo hi=>PB h len esz lo hi xs
 |.mks esz ag bytes zero=>PG h k0 esz ag bytes zero xs
 |.len q=>oC h q xs
 |.lenc n=>FT n xs
 |.cap=>PP h xs
 |.app esz ag bytes=>o7 h k0 esz ag bytes xs
 |.apz esz ag bytes zero=>VC h k0 esz ag bytes zero xs
 |.cpy esz ag=>DF h esz ag xs
 |.clr esz zero=>aCw h esz zero xs
 |.mn=>ZH xs
 |.mx=>ZG xs
 |.ext i=>JO i xs
 |.mki=>PI xs
 |.mkf f=>PJ f xs
 |.call _ _ _=>none
 |.callv _ _=>none
 |.mkm=>PH h k0 xs
 |.mlk q zero ok=>wS h q zero ok xs
 |.mup q=>PE h q xs
 |.mdel q=>FS h q xs
 |.men q zero=>aCv h q zero xs
 |.mes=>aCu h xs
 |.bx q=>aKC q xs
 |.rng=>PD h k0 xs
 |.ent=>VB h xs
 |.mkZ esz ag=>aCr h esz ag xs
 |.frz=>JN h xs
 |.calle _=>none
 |.callr _=>none
 |.callvr=>none
 |.mkM f=>aCt f xs
 |.mkT t=>aCs t xs
 |.tas t no zero ok=>aCp t no zero ok xs
 |.inv _ _ _=>none
 |.mvk=>aCq h k0 xs
 |.bad=>none
theorem FE(h:Hp)(k0:Nat)(o:K)(xs:List AV):FF h k0 o xs=op1 h k0 o xs:=by
 cases o with
 |bin op=>
  rcases xs with _|⟨x,_|⟨y,_|⟨z,r⟩⟩⟩
  rfl;rfl;show (W5 op x y).bind val=(bin op x y).bind val;rw[aBz];rfl
 |len q=>rcases q with _|_|_|q<;>rcases xs with _|⟨x,_|⟨y,r⟩⟩<;>rfl
 |_=>first
  |rfl
  |(rcases xs with _|⟨x,_|⟨y,_|⟨z,_|⟨u,r⟩⟩⟩⟩<;>rfl)
structure CF where
 np:Nat
 nt:Nat
 res:List (Sum Nat (Nat×Nat×Bool))
 body:C
 deriving Inhabited
structure Pg where
 fs:Nat->Option CF
 gl:Nat->Option AV
 ex:Nat->Option (List AV->Nat->Hp->Option (AV×Hp)):=λ_=>none
def gB(env:List AV)(t:Nat):AV:=(env[t]?).getD .top
def X.ev(gl:Nat->Option AV)(env:List AV):X->AV
 |.t n=>gB env n
 |.c v=>v
 |.g n=>match gl n with|some v => .fp v|none => .top
 |.f n => .fn n []
structure St where
 env:List AV
 hp:Hp
inductive Ex where
 |nor
 |ext (id:Nat)
 |ret
 deriving DecidableEq
structure aW where
 fn:Nat->List AV->Nat->Hp->Option (AV×Hp)
 yl:Nat->Nat->List AV->Hp->Option (AV×Hp)
instance:CoeFun aW (λ_=>Nat->List AV->Nat->Hp->Option (AV×Hp)):=⟨aW.fn⟩
def bJ(call:aW)(f:Nat)(ts:List AV):Option AV:=
 match call f ts 0 [] with
 |some (r,h)=>conv h r
 |none=>none
def gX(kb s:Nat)(vs:List AV):Nat:=
 if vs.any (λv=>match v with|.rf k _ _ _ _=>decide ((kb+s+1)*65536<=k)&&decide (k<(kb+s+1)*65536+32768)|_=>false) then (kb+s+1)*65536+32768 else (kb+s+1)*65536
def jT(call:aW)(kb s:Nat)(h:Hp)(f:Nat)(th im:Bool)(vs:List AV):Option (AV×Eff):=
 match (if im then none else mapS (snap depth h) vs) with
 |some (ts,keys)=>
  match bJ call f ts with
  |some r=>
   match hU h (kb+s) th r with
   |some (v,pa)=>some (v,.pat ((kb+s)::keys) ((if r.flat then [] else aI h keys)++pa))
   |none=>none
  |none=>none
 |none=>
  match call f vs (gX kb s vs) h with
  |some (r,h')=>some (r,.whole h')
  |none=>none
def JQ:List (AV×AV)->List (AV×AV)->Bool
 |[],[]=>true
 |x::r,y::s=>eqA x.1 y.1&&eqA x.2 y.2&&JQ r s
 |_,_=>false
def VE:Ob->Ob->Bool
 |.blk a n b c d,.blk a' n' b' c' d'=>pB a a'&&(n==n')&&(b==b')&&(c==c')&&(d==d')
 |.mpo a s n,.mpo b s' n'=>JQ a b&&(s==s')&&(n==n')
 |.itr a b c s l,.itr a' b' c' s' l'=>(a==a')&&(b==b')&&(c==c')&&(s==s')&&(l==l')
 |.lp a b c d e f,.lp a' b' c' d' e' f'=>(a==a')&&(b==b')&&pB c c'&&(d==d')&&decide (e=e')&&decide (f=f')
 |.dead,.dead=>true
 |_,_=>false
def qD:Option (Nat×Ob)->Option (Nat×Ob)->Bool
 |none,none=>true
 |some x,some y=>(x.1==y.1)&&VE x.2 y.2
 |_,_=>false
def gL:Hp->Bool
 |[]=>true
 |x::r=>(r.all λy => !(y.k==x.k))&&gL r
def mS(call:aW)(h:Hp)(f:Nat)(vs:List AV):Nat->Nat->Option (AV×List Nat×List Ent)
 |0,_=>none
 |n+1,b=>
  match call f vs b [] with
  |some (r,h0)=>
   if gL h0&&(h0.all λx=>(h.get x.k).isNone) then some (r,h0.map (·.k),h0)
   else match mS call h f vs n (b+4096) with
    |some (r',rd,pa)=>some (r',h0.map (·.k)++rd,pa)
    |none=>none
  |none=>none
def kG(call:aW)(kb s:Nat)(h:Hp)(f:Nat)(vs:List AV):Option (AV×Eff):=
 if treeL vs then
  match mS call h f vs 7 ((kb+s+1)*65536) with
  |some (r,rd,pa)=>some (r,.pat rd pa)
  |none=>none
 else none
def jK(call:aW)(kb s:Nat)(h:Hp)(f:Nat)(vs:List AV):Option (AV×Eff):=
 match call f vs (gX kb s vs) h with
 |some (r,h')=>
  let pa:=h'.filter λx => !qD (h.get x.k) (some (x.e,x.o))
  if (h++h').all λx=>qD ((aM h pa).get x.k) (h'.get x.k) then some (r,.all pa) else none
 |none=>none
def O9:List (Nat×Nat)->Nat->Option Nat
 |[],_=>none
 |(t,f)::r,u=>if t=u then some f else O9 r u
def opR(call:aW)(kb:Nat)(r:R)(h:Hp)(vs:List AV):Option (AV×Eff):=
 match r.k with
 |.call f th im=>jT call kb r.s h f th im vs
 |.calle f=>kG call kb r.s h f vs
 |.callr f=>jK call kb r.s h f vs
 |.callvr=>
  match vs with
  |.fn f cs::args=>jK call kb r.s h f (args++cs)
  |_=>none
 |.callv th im=>
  match vs with
  |.fn f cs::args=>jT call kb r.s h f th im (args++cs)
  |.yl k e::args=>
   match call.yl k e args h with
   |some (v,h')=>some (v,.whole h')
   |none=>none
  |.fnm f x::args=>jT call kb r.s h f th im (x::args)
  |_=>none
 |.inv tb th im=>
  match vs with
  |.ift t v::args=>
   match O9 tb t with
   |some f=>jT call kb r.s h f th im (v::args)
   |none=>none
  |_=>none
 |k=>FF h (kb+r.s) k vs
def eH(env:List AV)(d:Option Nat)(v:AV):List AV:=
 match d with
 |some d=>env.set d v
 |none=>env
def wanted(env:List AV):Option (Nat×Bool)->Option Bool
 |none=>some true
 |some (t,b)=>
  match gB env t with
  |.bool c=>some (c==b)
  |.tup []=>some false
  |_=>none
def iB(gl:Nat->Option AV)(call:aW)(kb:Nat)(r:R)(st:St):Option (St×Eff):=
 match wanted st.env r.gd with
 |none=>none
 |some false=>some (⟨eH st.env r.d (.tup []),st.hp⟩,.pat [] [])
 |some true=>
  match opR call kb r st.hp (r.xs.map (X.ev gl st.env)) with
  |some (v,eff)=>some (⟨eH st.env r.d v,eff.app st.hp⟩,eff)
  |none=>none
def mT(gl:Nat->Option AV)(call:aW)(kb:Nat):List R->St->Option St
 |[],st=>some st
 |r::rs,st=>
  match iB gl call kb r st with
  |some (st',_)=>mT gl call kb rs st'
  |none=>none
def gZ(gl:Nat->Option AV)(call:aW)(kb:Nat):List R->St->Option (St×List Eff)
 |[],st=>some (st,[])
 |r::rs,st=>
  match iB gl call kb r st with
  |some (st',e)=>(gZ gl call kb rs st').map fun(s,l)=>(s,e::l)
  |none=>none
def X.tmp:X->Option Nat
 |.t n=>some n
 |_=>none
def R.uses(r:R):List Nat:=r.xs.filterMap X.tmp++(match r.gd with|some (t,_)=>[t]|none=>[])
def nQ(a b:List Nat):Bool:=a.all λx => !b.contains x
def Eff.apart:Eff->Eff->Bool
 |.pat r1 p1,.pat r2 p2=>
  nQ (p1.map (·.k)) (r2++p2.map (·.k))&&nQ (p2.map (·.k)) r1
 |.pat [] [],.whole _|.whole _,.pat [] []=>true
 |.pat r [],.all p|.all p,.pat r []=>nQ (p.map (·.k)) r
 |_,_=>false
def R.apart(x y:R):Bool:=
 (match x.d with
  |some d => !y.uses.contains d&&y.d != some d
  |none=>true) &&
 (match y.d with
  |some d => !x.uses.contains d
  |none=>true)
def dC(i:Nat)(x:R)(e:Eff):List R->List Eff->Bool
 | r::rs,f::fs=>(r.bef.testBit i||(x.apart r&&e.apart f))&&dC i x e rs fs
 |_,_=>true
def cW:Nat->List R->List Eff->Bool
 |i,r::rs,e::es=>dC i r e rs es&&cW (i+1) rs es
 |_,_,_=>true
def clear:List Bool->List AV->List AV
 |true::m,v::r=>v::clear m r
 |false::m,_::r => .top::clear m r
 |_,r=>r
def i7(f:St->Option (Ex×St))(clr:List Bool):Nat->St->Option (Ex×St)
 |0,_=>none
 |n+1,st=>
  match f ⟨clear clr st.env,st.hp⟩ with
  |some (.nor,st')=>i7 f clr n st'
  |r=>r
def UM(bs seen:List Nat):List Nat:=bs.filter λb => !seen.contains b
def MW:Hp->Hp->Bool
 |[],[]=>true
 |x::r,y::s=>(x.k==y.k)&&(x.e==y.e)&&VE x.o y.o&&MW r s
 |_,_=>false
def eqR(x y:Ex×St):Bool:=decide (x.1=y.1)&&pB x.2.env y.2.env&&MW x.2.hp y.2.hp
def iH{α : Type}(eq : α -> α -> Bool)(f:Nat->Option α):List Nat->Option α
 |[]=>none
 |[b]=>f b
 |b::l=>
  match f b,iH eq f l with
  |some r,some s=>if eq r s then some r else none
  |_,_=>none
def killI(h:Hp)(k e:Nat):Option Hp:=
 match h.get k with
 |some (e',.itr ..)=>if e'=e then some (h.put k e .dead) else none
 |_=>none
def OU(h:Hp)(k e:Nat):Option (List Nat×(Nat->Ob)):=
 match h.get k with
 |some (e',.itr mk me since seen last)=>
  if e'=e then
   match h.get mk with
   |some (e2,.mpo _ bs ck)=>
    if e2=me/\(bs.all λb=>decide (b<since))=true/\since<=last then some (UM bs seen,λb => .itr mk me since (seen++[b]) ck) else none
   |_=>none
  else none
 |_=>none
def mrN(f:St->Option (Ex×St))(fin:Ex×St->Option (Ex×St))(it nx more out:Nat)(clr:List Bool):Nat->St->Option (Ex×St)
 |0,_=>none
 |n+1,st=>
  if nx<st.env.length/\more<st.env.length then
  match gB (clear clr st.env) it with
  |.pt k e 0=>
   match OU st.hp k e with
   |some (l,o)=>
    if l.isEmpty then (killI st.hp k e).bind λh=>fin (.ext out,⟨((clear clr st.env).set nx (.tup [.bool false])).set more (.bool false),h⟩)
    else iH eqR (λb=>
     match f ⟨((clear clr st.env).set nx (.tup [.bool true,.top,.top])).set more (.bool true),st.hp.put k e (o b)⟩ with
     |some (.nor,st')=>mrN f fin it nx more out clr n st'
     |some (x,st')=>(killI st'.hp k e).bind λh=>fin (x,⟨st'.env,h⟩)
     |none=>none) l
   |none=>none
  |_=>none
  else none
def kY(id:Nat):Ex->Ex
 |.ext i=>if i=id then .nor else .ext i
 |x=>x
def AN(kb:Nat):List Nat->Hp->Hp
 |[],h=>h
 |s::r,h=>AN kb r (match h.get (kb+s) with|some (e,_)=>h.put (kb+s) e .dead|none=>h)
def wL(kb:Nat)(msk:List Bool)(drop:List Nat)(q:Ex×St):Ex×St:=(q.1,⟨clear msk q.2.env,AN kb drop q.2.hp⟩)
def AM(env:List AV)(k e:Nat)(h:Hp):Option (Ex×St):=
 match h.get k with
 |some (e',.lp q _ _ _ _ _)=>
  if e'=e then
   match q with
   |0=>some (.nor,⟨env,h.put k e .dead⟩)
   |3=>some (.ret,⟨env,h.put k e .dead⟩)
   |q+4=>some (.ext q,⟨env,h.put k e .dead⟩)
   |_=>none
  else none
 |_=>none
def bE(gl:Nat->Option AV)(call:aW)(kb n:Nat):C->St->Option (Ex×St)
 |.skip,st=>some (.nor,st)
 |.reg rs false,st=>(mT gl call kb rs st).map λs=>(.nor,s)
 |.reg rs true,st=>
  match gZ gl call kb rs st with
  |some (s,es)=>if cW 0 rs es then some (.nor,s) else none
  |none=>none
 |.seq a b,st=>
  match bE gl call kb n a st with
  |some (.nor,st')=>bE gl call kb n b st'
  |r=>r
 |.cond c a b,st=>
  match c.ev gl st.env with
  |.bool true=>bE gl call kb n a st
  |.bool false=>bE gl call kb n b st
  |_=>none
 |.block id b,st=>
  match bE gl call kb n b st with
  |some (.ext i,st')=>if i=id then some (.nor,st') else some (.ext i,st')
  |r=>r
 |.loop b clr,st=>i7 (bE gl call kb n b) clr n st
 |.exit id,st=>some (.ext id,st)
 |.ret,st=>some (.ret,st)
 |.rf x s ps a b,st=>
  match x.ev gl st.env with
  |.fn f cs=>
   match call f (.yl (kb+s) (st.hp.next (kb+s))::cs) ((kb+s+1)*65536) (st.hp.put (kb+s) (st.hp.next (kb+s)) (.lp 0 kb st.env ps a b)) with
   |some (_,h')=>AM st.env (kb+s) (st.hp.next (kb+s)) h'
   |none=>none
  |_=>none
 |.mr it nx more out b clr,st=>mrN (bE gl call kb n b) some it nx more out clr n st
 |.mq p id it nx more out b clr rest msk drop,st=>
  match bE gl call kb n p st with
  |some (.nor,st1)=>mrN (bE gl call kb n b) (λo=>(match kY id o.1 with|.nor=>bE gl call kb n rest o.2|x=>some (x,o.2)).map (wL kb msk drop)) it nx more out clr n st1
  |r=>r
 |.bad,_=>none
def wE(st:St):Sum Nat (Nat×Nat×Bool)->Option AV
 |.inl t=>some (gB st.env t)
 |.inr (t,sz,ag)=>
  match gB st.env t with
  |.pt k e off=>match st.hp.get k with
   |some (e',.blk cs _ _ _ _)=>if e'=e then eY cs off sz ag else none
   |_=>none
  |_=>none
def oJ(st:St):List (Sum Nat (Nat×Nat×Bool))->Option (List AV)
 |[]=>some []
 |x::r=>
  match wE st x,oJ st r with
  |some v,some l=>some (v::l)
  |_,_=>none
def result(st:St)(rs:List (Sum Nat (Nat×Nat×Bool))):Option AV:=
 match oJ st rs with
 |some [v]=>some v
 |some l=>some (.tup l)
 |none=>none
def enter(cf:CF)(args:List AV):List AV:=args++List.replicate (cf.nt-args.length) (.tup [])
def tL(env:List AV):List Nat->List AV->List AV
 |t::ps,v::vs=>tL (env.set t v) ps vs
 |_,_=>env
def Ex.code:Ex->Nat
 |.nor=>0
 |.ret=>3
 |.ext i=>i+4
def pQ(ex:C->Nat->St->Option (Ex×St))(k e:Nat)(args:List AV)(h:Hp):Option (AV×Hp):=
 match h.get k with
 |some (e0,.lp 0 b env ps ca cb)=>
  if e0=e/\ps.length=args.length then
   match ex ca b ⟨tL env ps args,h⟩ with
   |some (.nor,st1)=>
    match st1.hp.get k with
    |some (e1,.lp 0 b1 env1 ps1 ca1 cb1)=>
     if e1=e then
      match ex cb b ⟨st1.env,st1.hp.put k e (.lp 1 b1 env1 ps1 ca1 cb1)⟩ with
      |some (x,st2)=>
       match st2.hp.get k with
       |some (e2,.lp 1 b2 env2 ps2 ca2 cb2)=>if e2=e then some (.bool (x == .nor),st2.hp.put k e (.lp x.code b2 env2 ps2 ca2 cb2)) else none
       |_=>none
      |none=>none
     else none
    |_=>none
   |_=>none
  else none
 |_=>none
def aX(pg:Pg):Nat->aW
 |0=>⟨λ_ _ _ _=>none,λ_ _ _ _=>none⟩
 |n+1=>⟨λf args kb h=>
  match pg.fs f with
  |none=>
   match pg.ex f with
   |some g=>g args kb h
   |none=>none
  |some cf=>
   match bE pg.gl (aX pg n) kb n cf.body ⟨enter cf args,h⟩ with
   |some (.ext _,_)=>none
   |some (_,st)=>(result st cf.res).map λv=>(v,st.hp)
   |none=>none,
  pQ (λc b st=>bE pg.gl (aX pg n) b n c st)⟩
end Go.Tev
end
