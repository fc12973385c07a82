import Derived.Test.YtdegpppbhhjlhaaGreatDoorCAU
import Derived.Test.YtdegpppbhhjlhaaGreatDoorCAV
import Derived.Test.YtdegpppbhhjlhaaGreatDoorCAR
import Derived.Test.YtdegpppbhhjlhaaGreatDoorCAT
import Derived.ChangeArms
import Derived.Test.YtdegpppbhhjlhaaGreatDoorCAQ
set_option linter.all false
namespace Go.Tev
section
section
variable{pg:Pg}
end
end
section
def aGW:List AV:=(List.range 256).map λi => .bool (decide (48<=i)&&decide (i<=57))
theorem WG(c:UInt8):aGW[c.toNat]?=some (.bool (cU c)):=by have h:=UInt8.toNat_lt c;simp only[aGW,List.getElem?_map];rw[List.getElem?_range h];rfl
section
variable{pg:Pg}
theorem c171(hf:pg.fs 171=some PV)(c:UInt8):Ret pg 171 [.fp (.agg aGW),.int .u8 c.toNat] (.bool (cU c)):=by have h:=UInt8.toNat_lt c;have e1:(0<=(c.toNat:Int))=True:=eq_true (by omega);have e2:((c.toNat:Int)<((256:Nat):Int))=True:=eq_true (by omega);have e3:((c.toNat:Int)<256)=True:=eq_true (by omega);refine Ret.ofX hf ?_;unfold PV;have hg:=WG c;simp only[e1,e2,e3,Nat.mul_one,hg,go_sem,seval]
end
end
section
section
variable{pg:Pg}
end
end
section
structure BR{H:Type}(b:DataW H->Nat)(bs:List (DataW H)->Nat):Prop where
 nil:bs []=0
 cons:∀x r,bs (x::r)=b x+bs r
 sl:∀e s,b (.slice e s)=bs e+bs s+1
 agg:∀p,b (.agg p)=bs p+1
 str:∀s,b (.lit (.string s))=s.length+1
 one:∀d,1<=b d
theorem BR.sum{H:Type}{b:DataW H->Nat}{bs:List (DataW H)->Nat}(B:BR b bs):∀l,bs l=(l.map b).sum
 |[]=>by simp[B.nil]
 |x::r=>by rw[B.cons,B.sum r];simp
theorem aFV{l:List Nat}:∀{i:Nat}{m:Nat},l[i]?=some m->m<=l.sum:=by
 induction l with
 |nil=>intro i m h;simp at h
 |cons x r ih=>
  intro i m h;cases i with
  |zero=>simp at h;subst h;simp
  |succ i=>have:=ih (by simpa using h);simp;omega
theorem nV:∀{l:List Nat},(∀m∈l,1<=m)->l.length<=l.sum
 |[],_=>by simp
 |x::r,h=>by have h1:=h x (by simp);have h2:=nV (l:=r) (λm hm=>h m (cE _ hm));simp;omega
theorem wZ{α : Type}{Pr:Nat -> α -> Prop}:∀n,(∀i,i<n->∃x,Pr i x)->∃l:List α,l.length=n/\∀i x,l[i]?=some x->Pr i x
 |0,_=>⟨[],rfl,λi x h=>by simp at h⟩
 |n+1,h=>by
  obtain⟨l,h1,h2⟩:=wZ n (λi hi=>h i (by omega));obtain⟨x,hx⟩:=h n (by omega);refine⟨l++[x],by simp[h1],λi y hy=>?_⟩;by_cases hi:i<l.length;rw[List.getElem?_append_left hi]at hy;exact h2 i y hy;rw[yR (by omega)]at hy;have:i-l.length=0:=by rcases Nat.eq_zero_or_pos (i-l.length) with q|q;exact q;rw[cZ (by simp;omega)]at hy;cases hy
  rw[this]at hy;simp at hy;subst hy;have:i=n:=by omega
  subst this;exact hx
theorem aL.app{α β : Type}{R : α -> β -> Prop}{a b:List α}{c d:List β}(h1:aL R a c)(h2:aL R b d):aL R (a++b) (c++d):=by
 induction h1 with
 |nil=>exact h2
 |cons h _ ih=>exact .cons h ih
theorem aL.mk_get{α β : Type}{R : α -> β -> Prop}:∀{l:List α}{m:List β},l.length=m.length->(∀(i:Nat)(x : α)(y : β),l[i]?=some x->m[i]?=some y->R x y)->aL R l m
 |[],[],_,_ => .nil
 |x::r,y::s,hl,h => .cons (h 0 x y rfl rfl) (aL.mk_get (by simpa using hl) (λi a b ha hb=>h (i+1) a b (by simpa using ha) (by simpa using hb)))
 |[],_::_,hl,_=>by simp at hl
 |_::_,[],hl,_=>by simp at hl
theorem aL.piece{α β : Type}{R : α -> β -> Prop}{a b:List α}{cs:List β}{o n:Nat}(h1:aL R a ((cs.drop o).take n))(h2:aL R b (cs.drop (o+n))):aL R (a++b) (cs.drop o):=by have:=h1.app h2;rwa [<-List.drop_drop,List.take_append_drop]at this
theorem aL.done{α β : Type}{R : α -> β -> Prop}{cs:List β}{o:Nat}(h:cs.length=o):aL R [] (cs.drop o):=by subst h;simp;exact .nil
section
variable{H:Type}{enc:TypeId×Value->H}{P:Program}{w:World}{num:Nm}{ρ : Rho}{b:DataW H->Nat}{bs:List (DataW H)->Nat}
def noF(_:Nat):Prop:=False
def Rd(enc:TypeId×Value->H)(P:Program)(w:World)(num:Nm)(ρ : Rho)(b:DataW H->Nat)(N:Nat)(t:TypeId){α : Type}(cells : α -> List AV)(good : α -> Nat->Prop):Prop:=
 ∀fuel,fuel<=N->∀cs d ps,DataW.trod enc P w 0 (λ_=>true) true fuel t cs=some (d,ps)->b d<=1048576->∃x : α,aL (Rv num ρ w noF) (cells x) cs/\good x (b d)
theorem Rd.int{N:Nat}{t:TypeId}(ht:P.underlying t=some (.int .i64)):Rd enc P w num ρ b N t (λn:Int=>[aH n]) (λ_ _=>True):=by intro fuel hN cs d ps h _;obtain⟨n,rfl,_,_⟩:=DataW.trod_int ht h;exact⟨n,.cons (.int _ _) .nil,trivial⟩
theorem Rd.bool{N:Nat}{t:TypeId}(ht:P.underlying t=some .bool):Rd enc P w num ρ b N t (λn:Bool=>[.bool n]) (λ_ _=>True):=by intro fuel hN cs d ps h _;obtain⟨n,rfl,_⟩:=DataW.trod_bool ht h;exact⟨n,.cons (.bool _) .nil,trivial⟩
theorem Rd.str{N:Nat}(B:BR b bs){t:TypeId}(ht:P.underlying t=some .string):Rd enc P w num ρ b N t (λs:Str=>[Str.av s]) (λ_ _=>True):=by
 intro fuel hN cs d ps h hb;obtain⟨s,rfl,hx,_⟩:=DataW.trod_string ht h;cases hx;rw[B.str]at hb;have hl:s.data.toList.length<=big:=by simp only[big];omega
 refine⟨⟨s.data.toList,hl⟩,.cons ?_ .nil,trivial⟩;exact Rv.str (num:=num) (ρ := ρ) (w:=w) (F:=noF) s.data.toList
theorem K9{a:Addr}{n:Nat}{cs:List Value}(h:w.cells? 0 a n=some cs):cs.length=n/\∀j,j<n->w.cell? (a.add j)=cs[j]?:=by
 simp only[World.cells?,Nat.zero_le,if_true]at h
 have hl:∀(l:List Nat)(r:List Value),(l.mapM λi=>w.cell? (a.add i))=some r->r.length=l.length/\∀(j k:Nat),l[j]?=some k->w.cell? (a.add k)=r[j]?:=by
  intro l
  induction l with
  |nil=>intro r hr;simp at hr;subst hr;exact⟨rfl,λj k hk=>by simp at hk⟩
  |cons x l ih=>
   intro r hr;simp only[List.mapM_cons,Option.bind_eq_bind,Option.bind_eq_some_iff,Option.pure_def,aW]at hr;obtain⟨v,hv,r',hr',rfl⟩:=hr;obtain⟨i1,i2⟩:=ih r' hr';refine⟨by simp[i1],?_⟩;intro j k hk;cases j with
   |zero=>simp at hk;subst hk;simpa using hv
   |succ j=>simpa using i2 j k (by simpa using hk)
 obtain⟨h1,h2⟩:=hl _ _ h;rw[List.length_range]at h1;exact⟨h1,λj hj=>h2 j j (by rw[List.getElem?_range hj])⟩
theorem ED(a:Addr):a.add 0=a:=by simp[Addr.add]
theorem LJ(b off n:Nat):(Addr.add ⟨b,off,none⟩ n)=⟨b,off+n,none⟩:=by unfold Addr.add;split;rename_i h0;simp[h0];rfl
theorem Rd.slice{N:Nat}(B:BR b bs){t e:TypeId}{sz:Nat}{α : Type}{cells : α -> List AV}{good : α -> Nat->Prop}(enc1 : α -> AV)(ht:P.underlying t=some (.slice e))(hce:P.cellsOf e=sz)(hsz:0<sz)
  (hcells:∀x,(enc1 x).cells=cells x) (hlen:∀x,(cells x).length=sz) (he:Rd enc P w num ρ b N e cells good) :
  Rd enc P w num ρ b (N+1) t (λs:Sl α => [s.av enc1]) (λs n=>(s.nl=true->s.es=[])/\∃ms:List Nat,aL good s.es ms/\ms.sum+1<=n/\∀m∈ms,1<=m):=by
 intro fuel hN cs d ps h hb;rcases DataW.trod_slice ht h with ⟨rfl,hx⟩|⟨a,len,cap,elems,rest,n,hfn,rfl,hx,_,hlc,hcm,hel,hes,_,_⟩
 cases hx;exact⟨⟨true,[],false,by simp⟩,.cons (.nsl _) .nil,λ_=>rfl,[],.nil,by simpa using B.one _,by simp⟩;cases hx;rw[B.sl,B.sum,B.sum]at hb ⊢;rw[hce]at hes;have hel':elems.length=len:=hel
 have key:∀i,i<len->∃x : α,∃cs',w.cells? 0 (a.add (i*sz)) sz=some cs'/\aL (Rv num ρ w noF) (cells x) cs'/\good x ((elems.map λy=>b y.1).getD i 0):=by
  intro i hi;have h1:=hes i hi;rw[cK (by omega),Option.bind_eq_some_iff]at h1;obtain⟨cs',h2,h3⟩:=h1;have hm:((elems.map (·.1)).map b)[i]?=some (b (elems[i]'(by omega)).1):=by simp[cK (show i<elems.length by omega)]
  have hle:=aFV hm;obtain⟨x,h4,h5⟩:=he n (by omega) cs' (elems[i]'(by omega)).1 (elems[i]'(by omega)).2 h3 (by omega);refine⟨x,cs',h2,h4,?_⟩;rw[List.getD_eq_getElem?_getD];simpa[cK (show i<elems.length by omega)] using h5
 obtain⟨es,hesl,hese⟩:=wZ len key;have hbig:es.length<=big:=by
  have h1:((elems.map (·.1)).map b).length<=((elems.map (·.1)).map b).sum:=nV (λm hm=>by
   obtain⟨d,_,rfl⟩:=List.mem_map.1 hm;exact B.one d)
  simp only[bU]at h1;simp only[big];omega
 refine⟨⟨false,es,false,hbig⟩,.cons ?_ .nil,(by intro h;cases h),(elems.map λy=>b y.1),?_,?_,?_⟩;have hne:es≠[]->a.spot=none:=by
  intro h0;have hl0:0<len:=by rw[<-hesl];exact List.length_pos_iff.2 h0
  obtain⟨x,cs',h1,_,_⟩:=key 0 hl0;obtain⟨c1,c2⟩:=K9 h1;have:=c2 0 hsz;rw[Nat.zero_mul,ED,ED,cK (by omega)]at this;simp only[World.cell?]at this;split at this;cases hs:a.spot with
  |none=>rfl
  |some v=>rw[hs]at this;simp at this
  cases this
 obtain⟨ab,ao,asp⟩:=a;have hcell:∀(i:Nat)(x : α),es[i]?=some x->∃cs',cs'.length=sz/\aL (Rv num ρ w noF) (cells x) cs'/\∀j,j<sz->w.cell? ⟨ab,ao+(i*sz+j),none⟩=cs'[j]?:=by
  intro i x hx;obtain⟨cs',h1,h2,_⟩:=hese i x hx;have hn0:es≠[]:=by intro h;subst h;simp at hx
  have hsp:=hne hn0;simp only at hsp;subst hsp;obtain⟨c1,c2⟩:=K9 h1;refine⟨cs',c1,h2,λj hj=>?_⟩;have:=c2 j hj;rw[LJ,LJ,Nat.add_assoc]at this;exact this
 have hmap:∀(i:Nat)(e':AV),(es.map enc1)[i]?=some e'->∃x : α,es[i]?=some x/\e'=enc1 x:=by intro i e' h;rw[List.getElem?_map,kW]at h;obtain⟨x,h1,h2⟩:=h;exact⟨x,h1,h2.symm⟩
 have hv:(Value.slice (some ⟨ab,ao,asp⟩) len cap) = .slice (some ⟨ab,ao,asp⟩) (es.map enc1).length cap:=by rw[bU,hesl]
 simp only[Sl.av];rw[hv];refine .sl (es.map enc1) false ab ao cap sz (λk=>(w.cell? ⟨ab,ao+k,none⟩).getD undef) (by rw[bU,hesl];exact hlc) (by intro h;cases h) ?_ ?_ ?_ ?_ asp ?_;intro h0;refine⟨λh=>h,?_⟩;obtain⟨e',r,hr⟩:=List.exists_cons_of_ne_nil h0;obtain⟨x,hx,_⟩:=hmap 0 e' (by rw[hr];rfl);obtain⟨cs',c1,_,c3⟩:=hcell 0 x hx;have h3:=c3 0 hsz;rw[cK (by omega)]at h3;by_cases hlt:ab<w.heap.size;exact hlt;simp[World.cell?,Array.getElem?_eq_none (Nat.le_of_not_lt hlt)]at h3;intro i e' h;obtain⟨x,_,rfl⟩:=hmap i e' h;rw[hcells,hlen];intro k hk;rw[bU]at hk;have hi:k / sz<es.length:=Nat.div_lt_of_lt_mul (by rw[Nat.mul_comm];exact hk);obtain⟨cs',c1,_,c3⟩:=hcell (k / sz) _ (cK hi);have hm:k % sz<sz:=Nat.mod_lt _ hsz;have h3:=c3 (k % sz) hm;have e1:k / sz*sz+k % sz=k:=by rw[Nat.mul_comm];exact Nat.div_add_mod k sz
 rw[e1,cK (by omega)]at h3;rw[h3];rfl;intro i e' j y h hy;obtain⟨x,hx,rfl⟩:=hmap i e' h;obtain⟨cs',c1,c2,c3⟩:=hcell i x hx;rw[hcells]at hy;have hj:j<sz:=by have:=(cP.1 hy).1;rw[hlen]at this;exact this
 rw[c3 j hj,cK (by omega)];exact c2.get j y _ hy (cK (by omega));intro h0;refine hne ?_;intro h;subst h;simp at h0;refine aL.mk_get (by rw[hesl,bU,hel']) ?_;intro i x m hx hm;obtain⟨_,_,_,hg⟩:=hese i x hx;rw[List.getD_eq_getElem?_getD,hm]at hg;exact hg;have:(elems.map λy=>b y.1)=(elems.map (·.1)).map b:=by simp
 rw[this];omega;intro m hm;obtain⟨y,_,rfl⟩:=List.mem_map.1 hm;exact B.one _
theorem Rd.mono{N M:Nat}{t:TypeId}{α : Type}{cells : α -> List AV}{good : α -> Nat->Prop}(h:Rd enc P w num ρ b N t cells good)(hM:M<=N):Rd enc P w num ρ b M t cells good:=
 λfuel hf=>h fuel (by omega)
theorem jZ{t:TypeId}{fs:Array Field}{L:List (TypeId×Nat)}{fuel:Nat}{cs:List Value}{x:DataW H×List MemPlace}(ht:P.underlying t=some (.struct fs))(hL:fs.toList.map (λf=>(f.type,f.offset))=L)
  (h:DataW.trod enc P w 0 (λ_=>true) true fuel t cs=some x) :
  ∃(xs:List (DataW H×List MemPlace))(n:Nat),fuel=n+1/\x.1 = .agg (xs.map (·.1))/\cs.length=P.cellsOf t/\xs.length=L.length /\
   ∀(i:Nat)(p:TypeId×Nat),L[i]?=some p->DataW.trod enc P w 0 (λ_=>true) true n p.1 ((cs.drop p.2).take (P.cellsOf p.1))=xs[i]?:=by
 obtain⟨xs,n,h0,rfl,h1,h2,h3⟩:=DataW.trod_struct ht h;subst hL;refine⟨xs,n,h0,rfl,h1,by simpa using h2,?_⟩;intro i p hp;rw[List.getElem?_map,kW]at hp;obtain⟨f,hf,rfl⟩:=hp;exact h3 i f (by simpa using hf)
end
end
section
structure Loop where
 v:Str
 lo:Lin
 hi:Sl Lin
 step:Int
def Loop.av(x:Loop):AV:=.agg [.str x.v.bs,.int .i64 x.lo.c,x.lo.ts.av bE.av,x.hi.av Lin.av,.int .i64 x.step]
structure eH where
 loops:Sl Loop
 value:Int
 at_:Sl Lin
 dyn:Bool
 index:aA
 check:Int
 body:aA
def eH.cells(x:eH):List AV:=[x.loops.av Loop.av,.int .i64 x.value,x.at_.av Lin.av,.bool x.dyn]++x.index.cells++[.int .i64 x.check]++x.body.cells
def eH.av(x:eH):AV:=.agg x.cells
theorem Loop.avc(x:Loop):Loop.av x = .agg [.str x.v.bs,.int .i64 x.lo.c,.sl x.lo.ts.nl (x.lo.ts.es.map bE.av) x.lo.ts.cl,.sl x.hi.nl (x.hi.es.map Lin.av) x.hi.cl,.int .i64 x.step]:=rfl
theorem Loop.cells_av(x:Loop):(Loop.av x).cells=[.str x.v.bs,.int .i64 x.lo.c,.sl x.lo.ts.nl (x.lo.ts.es.map bE.av) x.lo.ts.cl,.sl x.hi.nl (x.hi.es.map Lin.av) x.hi.cl,.int .i64 x.step]:=by rw[Loop.avc];rfl
theorem Loop.isAgg_av(x:Loop):(Loop.av x).isAgg=true:=by rw[Loop.avc];rfl
theorem Loop.fits_av(x:Loop):(Loop.av x).fits 5 true=true:=by rw[Loop.avc];rfl
theorem Loop.tree_av(x:Loop):(Loop.av x).tree=true:=by rw[Loop.avc];simp[go_sem]
theorem Loop.treeL_av(l:List Loop):Tev.treeL (l.map Loop.av)=true:=bQ Loop.tree_av l
theorem Loop.fld_av(off sz:Nat)(ag:Bool)(x:Loop):fU off sz ag [Loop.av x]=fU off sz ag [.agg [.str x.v.bs,.int .i64 x.lo.c,.sl x.lo.ts.nl (x.lo.ts.es.map bE.av) x.lo.ts.cl,.sl x.hi.nl (x.hi.es.map Lin.av) x.hi.cl,.int .i64 x.step]]:=by rw[Loop.avc]
theorem Loop.fad_av(off sz:Nat)(ag:Bool)(x:Loop):fV off sz ag [.fp (Loop.av x)]=fV off sz ag [.fp (.agg [.str x.v.bs,.int .i64 x.lo.c,.sl x.lo.ts.nl (x.lo.ts.es.map bE.av) x.lo.ts.cl,.sl x.hi.nl (x.hi.es.map Lin.av) x.hi.cl,.int .i64 x.step])]:=by rw[Loop.avc]
theorem Loop.box_av(h:Hp)(k:Nat)(x:Loop):fW h k [Loop.av x]=fW h k [.agg [.str x.v.bs,.int .i64 x.lo.c,.sl x.lo.ts.nl (x.lo.ts.es.map bE.av) x.lo.ts.cl,.sl x.hi.nl (x.hi.es.map Lin.av) x.hi.cl,.int .i64 x.step]]:=by rw[Loop.avc]
attribute [go_sem high] Loop.cells_av Loop.isAgg_av Loop.fits_av Loop.tree_av Loop.treeL_av
attribute [go_sem ↓ high] Loop.fld_av Loop.fad_av Loop.box_av
theorem eH.avc(x:eH):eH.av x = .agg [.sl x.loops.nl (x.loops.es.map Loop.av) x.loops.cl,.int .i64 x.value,.sl x.at_.nl (x.at_.es.map Lin.av) x.at_.cl,.bool x.dyn,.str x.index.op.bs,.int .i64 x.index.num,.int .i64 x.index.value,.str x.index.name.bs,.sl x.index.at_.nl (x.index.at_.es.map Lin.av) x.index.at_.cl,.bool x.index.dyn,.int .i64 x.index.check,.sl x.index.fn.nl (x.index.fn.es.map aE.av) x.index.fn.cl,.sl x.index.knl (x.index.kids.map aA.av) x.index.kcl,.int .i64 x.check,.str x.body.op.bs,.int .i64 x.body.num,.int .i64 x.body.value,.str x.body.name.bs,.sl x.body.at_.nl (x.body.at_.es.map Lin.av) x.body.at_.cl,.bool x.body.dyn,.int .i64 x.body.check,.sl x.body.fn.nl (x.body.fn.es.map aE.av) x.body.fn.cl,.sl x.body.knl (x.body.kids.map aA.av) x.body.kcl]:=rfl
theorem eH.cells_av(x:eH):(eH.av x).cells=[.sl x.loops.nl (x.loops.es.map Loop.av) x.loops.cl,.int .i64 x.value,.sl x.at_.nl (x.at_.es.map Lin.av) x.at_.cl,.bool x.dyn,.str x.index.op.bs,.int .i64 x.index.num,.int .i64 x.index.value,.str x.index.name.bs,.sl x.index.at_.nl (x.index.at_.es.map Lin.av) x.index.at_.cl,.bool x.index.dyn,.int .i64 x.index.check,.sl x.index.fn.nl (x.index.fn.es.map aE.av) x.index.fn.cl,.sl x.index.knl (x.index.kids.map aA.av) x.index.kcl,.int .i64 x.check,.str x.body.op.bs,.int .i64 x.body.num,.int .i64 x.body.value,.str x.body.name.bs,.sl x.body.at_.nl (x.body.at_.es.map Lin.av) x.body.at_.cl,.bool x.body.dyn,.int .i64 x.body.check,.sl x.body.fn.nl (x.body.fn.es.map aE.av) x.body.fn.cl,.sl x.body.knl (x.body.kids.map aA.av) x.body.kcl]:=by rw[eH.avc];rfl
theorem eH.isAgg_av(x:eH):(eH.av x).isAgg=true:=by rw[eH.avc];rfl
theorem eH.fits_av(x:eH):(eH.av x).fits 23 true=true:=by rw[eH.avc];rfl
theorem eH.tree_av(x:eH):(eH.av x).tree=true:=by rw[eH.avc];simp[go_sem]
theorem eH.treeL_av(l:List eH):Tev.treeL (l.map eH.av)=true:=bQ eH.tree_av l
theorem eH.fld_av(off sz:Nat)(ag:Bool)(x:eH):fU off sz ag [eH.av x]=fU off sz ag [.agg [.sl x.loops.nl (x.loops.es.map Loop.av) x.loops.cl,.int .i64 x.value,.sl x.at_.nl (x.at_.es.map Lin.av) x.at_.cl,.bool x.dyn,.str x.index.op.bs,.int .i64 x.index.num,.int .i64 x.index.value,.str x.index.name.bs,.sl x.index.at_.nl (x.index.at_.es.map Lin.av) x.index.at_.cl,.bool x.index.dyn,.int .i64 x.index.check,.sl x.index.fn.nl (x.index.fn.es.map aE.av) x.index.fn.cl,.sl x.index.knl (x.index.kids.map aA.av) x.index.kcl,.int .i64 x.check,.str x.body.op.bs,.int .i64 x.body.num,.int .i64 x.body.value,.str x.body.name.bs,.sl x.body.at_.nl (x.body.at_.es.map Lin.av) x.body.at_.cl,.bool x.body.dyn,.int .i64 x.body.check,.sl x.body.fn.nl (x.body.fn.es.map aE.av) x.body.fn.cl,.sl x.body.knl (x.body.kids.map aA.av) x.body.kcl]]:=by rw[eH.avc]
theorem eH.fad_av(off sz:Nat)(ag:Bool)(x:eH):fV off sz ag [.fp (eH.av x)]=fV off sz ag [.fp (.agg [.sl x.loops.nl (x.loops.es.map Loop.av) x.loops.cl,.int .i64 x.value,.sl x.at_.nl (x.at_.es.map Lin.av) x.at_.cl,.bool x.dyn,.str x.index.op.bs,.int .i64 x.index.num,.int .i64 x.index.value,.str x.index.name.bs,.sl x.index.at_.nl (x.index.at_.es.map Lin.av) x.index.at_.cl,.bool x.index.dyn,.int .i64 x.index.check,.sl x.index.fn.nl (x.index.fn.es.map aE.av) x.index.fn.cl,.sl x.index.knl (x.index.kids.map aA.av) x.index.kcl,.int .i64 x.check,.str x.body.op.bs,.int .i64 x.body.num,.int .i64 x.body.value,.str x.body.name.bs,.sl x.body.at_.nl (x.body.at_.es.map Lin.av) x.body.at_.cl,.bool x.body.dyn,.int .i64 x.body.check,.sl x.body.fn.nl (x.body.fn.es.map aE.av) x.body.fn.cl,.sl x.body.knl (x.body.kids.map aA.av) x.body.kcl])]:=by rw[eH.avc]
theorem eH.box_av(h:Hp)(k:Nat)(x:eH):fW h k [eH.av x]=fW h k [.agg [.sl x.loops.nl (x.loops.es.map Loop.av) x.loops.cl,.int .i64 x.value,.sl x.at_.nl (x.at_.es.map Lin.av) x.at_.cl,.bool x.dyn,.str x.index.op.bs,.int .i64 x.index.num,.int .i64 x.index.value,.str x.index.name.bs,.sl x.index.at_.nl (x.index.at_.es.map Lin.av) x.index.at_.cl,.bool x.index.dyn,.int .i64 x.index.check,.sl x.index.fn.nl (x.index.fn.es.map aE.av) x.index.fn.cl,.sl x.index.knl (x.index.kids.map aA.av) x.index.kcl,.int .i64 x.check,.str x.body.op.bs,.int .i64 x.body.num,.int .i64 x.body.value,.str x.body.name.bs,.sl x.body.at_.nl (x.body.at_.es.map Lin.av) x.body.at_.cl,.bool x.body.dyn,.int .i64 x.body.check,.sl x.body.fn.nl (x.body.fn.es.map aE.av) x.body.fn.cl,.sl x.body.knl (x.body.kids.map aA.av) x.body.kcl]]:=by rw[eH.avc]
attribute [go_sem high] eH.cells_av eH.isAgg_av eH.fits_av eH.tree_av eH.treeL_av
attribute [go_sem ↓ high] eH.fld_av eH.fad_av eH.box_av
end
section
structure TyP(P:Program)(tI tS tB tCoef tLin tStep tPull sCoef sLin sStep sPull eF sStr:TypeId):Prop where
 uI:P.underlying tI=some (.int .i64)
 uS:P.underlying tS=some .string
 uB:P.underlying tB=some .bool
 u_tCoef:∃fs,P.underlying tCoef=some (.struct fs)/\fs.toList.map (λf=>(f.type,f.offset))=[(tS,0),(tI,1)]
 u_tLin:∃fs,P.underlying tLin=some (.struct fs)/\fs.toList.map (λf=>(f.type,f.offset))=[(tI,0),(sCoef,1)]
 u_tStep:∃fs,P.underlying tStep=some (.struct fs)/\fs.toList.map (λf=>(f.type,f.offset))=[(tS,0),(tI,1),(eF,2)]
 u_tPull:∃fs,P.underlying tPull=some (.struct fs)/\fs.toList.map (λf=>(f.type,f.offset))=[(tS,0),(tI,1),(tI,2),(tS,3),(sLin,4),(tB,5),(tI,6),(sStep,7),(sPull,8)]
 u_sCoef:P.underlying sCoef=some (.slice tCoef)
 u_sLin:P.underlying sLin=some (.slice tLin)
 u_sStep:P.underlying sStep=some (.slice tStep)
 u_sPull:P.underlying sPull=some (.slice tPull)
 u_sInt:P.underlying eF=some (.slice tI)
 u_sStr:P.underlying sStr=some (.slice tS)
 c_tI:P.cellsOf tI=1
 c_tS:P.cellsOf tS=1
 c_tB:P.cellsOf tB=1
 c_tCoef:P.cellsOf tCoef=2
 c_tLin:P.cellsOf tLin=2
 c_tStep:P.cellsOf tStep=3
 c_tPull:P.cellsOf tPull=9
 c_sCoef:P.cellsOf sCoef=1
 c_sLin:P.cellsOf sLin=1
 c_sStep:P.cellsOf sStep=1
 c_sPull:P.cellsOf sPull=1
 c_sInt:P.cellsOf eF=1
 c_sStr:P.cellsOf sStr=1
structure TyN(P:Program)(tI tS tB tLin tPull sLin tLoop tAcc tNest sLoop:TypeId):Prop where
 u_tLoop:∃fs,P.underlying tLoop=some (.struct fs)/\fs.toList.map (λf=>(f.type,f.offset))=[(tS,0),(tLin,1),(sLin,3),(tI,4)]
 u_tAcc:∃fs,P.underlying tAcc=some (.struct fs)/\fs.toList.map (λf=>(f.type,f.offset))=[(tI,0),(sLin,1),(tB,2)]
 u_tNest:∃fs,P.underlying tNest=some (.struct fs)/\fs.toList.map (λf=>(f.type,f.offset))=[(sLoop,0),(tAcc,1),(tPull,4),(tI,13),(tPull,14)]
 u_sLoop:P.underlying sLoop=some (.slice tLoop)
 c_tLoop:P.cellsOf tLoop=5
 c_tAcc:P.cellsOf tAcc=3
 c_tNest:P.cellsOf tNest=23
 c_sLoop:P.cellsOf sLoop=1
section
variable{H:Type}{enc:TypeId×Value->H}{P:Program}{w:World}{num:Nm}{ρ : Rho}{b:DataW H->Nat}{bs:List (DataW H)->Nat}{tI tS tB tCoef tLin tStep tPull sCoef sLin sStep sPull eF sStr:TypeId}
variable(B:BR b bs)(T:TyP P tI tS tB tCoef tLin tStep tPull sCoef sLin sStep sPull eF sStr)
include B T
theorem S7(N:Nat):Rd enc P w num ρ b N tCoef (λx:bE=>[Str.av x.v]++([aH x.c]++[])) (λ_ _=>True):=by
 intro fuel hN cs d ps h hb;obtain⟨fs,hu,hL⟩:=T.u_tCoef;obtain⟨xs,n,hn,hx,hcl,hl,hf⟩:=jZ hu hL h;rw[T.c_tCoef]at hcl;obtain⟨y0,y1,rfl⟩:∃y0 y1,xs=[y0,y1]:=by
  match xs,hl with
  |[y0,y1],_=>exact⟨y0,y1,rfl⟩
 have hx':d = .agg [y0.1,y1.1]:=hx;subst hx';rw[B.agg]at hb ⊢;simp only[B.cons,B.nil]at hb ⊢;have f0:_=some y0:=hf 0 (tS,0) rfl;have f1:_=some y1:=hf 1 (tI,1) rfl;simp only[T.c_tI,T.c_tS]at f0 f1;obtain⟨a0,p0,g0⟩:=(Rd.str (enc:=enc) (w:=w) (num:=num) (ρ := ρ) (N:=n) B T.uS) n (Nat.le_refl _) _ y0.1 y0.2 f0 (by omega);obtain⟨a1,p1,g1⟩:=(Rd.int (enc:=enc) (w:=w) (num:=num) (ρ := ρ) (b:=b) (N:=n) T.uI) n (Nat.le_refl _) _ y1.1 y1.2 f1 (by omega);refine⟨⟨a0,a1⟩,?_,trivial⟩;have q:=(p0.piece (p1.piece (aL.done (by omega))))
 rw[List.drop_zero]at q;exact q
theorem S9(N:Nat):Rd enc P w num ρ b N sCoef (λs:Sl bE=>[s.av bE.av]) (λs n=>(s.nl=true->s.es=[])/\∃ms:List Nat,aL (λ_ _=>True) s.es ms/\ms.sum+1<=n/\∀m∈ms,1<=m):=
 (Rd.slice B (N:=N) (sz:=2) bE.av T.u_sCoef T.c_tCoef (by decide) (λx=>rfl) (λx=>rfl) (S7 B T N)).mono (Nat.le_succ N)
theorem XP(N:Nat):Rd enc P w num ρ b N tLin (λx:Lin=>[aH x.c]++([x.ts.av bE.av]++[])) (λ_ _=>True):=by
 intro fuel hN cs d ps h hb;obtain⟨fs,hu,hL⟩:=T.u_tLin;obtain⟨xs,n,hn,hx,hcl,hl,hf⟩:=jZ hu hL h;rw[T.c_tLin]at hcl;obtain⟨y0,y1,rfl⟩:∃y0 y1,xs=[y0,y1]:=by
  match xs,hl with
  |[y0,y1],_=>exact⟨y0,y1,rfl⟩
 have hx':d = .agg [y0.1,y1.1]:=hx;subst hx';rw[B.agg]at hb ⊢;simp only[B.cons,B.nil]at hb ⊢;have f0:_=some y0:=hf 0 (tI,0) rfl;have f1:_=some y1:=hf 1 (sCoef,1) rfl;simp only[T.c_sCoef,T.c_tI]at f0 f1;obtain⟨a0,p0,g0⟩:=(Rd.int (enc:=enc) (w:=w) (num:=num) (ρ := ρ) (b:=b) (N:=n) T.uI) n (Nat.le_refl _) _ y0.1 y0.2 f0 (by omega);obtain⟨a1,p1,g1⟩:=(S9 (enc:=enc) (w:=w) (num:=num) (ρ := ρ) B T n) n (Nat.le_refl _) _ y1.1 y1.2 f1 (by omega);refine⟨⟨a0,a1⟩,?_,trivial⟩;have q:=(p0.piece (p1.piece (aL.done (by omega))))
 rw[List.drop_zero]at q;exact q
theorem XU(N:Nat):Rd enc P w num ρ b N sLin (λs:Sl Lin=>[s.av Lin.av]) (λs n=>(s.nl=true->s.es=[])/\∃ms:List Nat,aL (λ_ _=>True) s.es ms/\ms.sum+1<=n/\∀m∈ms,1<=m):=
 (Rd.slice B (N:=N) (sz:=2) Lin.av T.u_sLin T.c_tLin (by decide) (λx=>rfl) (λx=>rfl) (XP B T N)).mono (Nat.le_succ N)
theorem E6(N:Nat):Rd enc P w num ρ b N eF (λs:Sl Int=>[s.av aH]) (λs n=>(s.nl=true->s.es=[])/\∃ms:List Nat,aL (λ_ _=>True) s.es ms/\ms.sum+1<=n/\∀m∈ms,1<=m):=
 (Rd.slice B (N:=N) (sz:=1) aH T.u_sInt T.c_tI (by decide) (λx=>rfl) (λx=>rfl) (Rd.int T.uI)).mono (Nat.le_succ N)
theorem S6(N:Nat):Rd enc P w num ρ b N tStep (λx:aE=>[Str.av x.op]++([aH x.num]++([x.args.av aH]++[]))) (λ_ _=>True):=by
 intro fuel hN cs d ps h hb;obtain⟨fs,hu,hL⟩:=T.u_tStep;obtain⟨xs,n,hn,hx,hcl,hl,hf⟩:=jZ hu hL h;rw[T.c_tStep]at hcl;obtain⟨y0,y1,y2,rfl⟩:∃y0 y1 y2,xs=[y0,y1,y2]:=by
  match xs,hl with
  |[y0,y1,y2],_=>exact⟨y0,y1,y2,rfl⟩
 have hx':d = .agg [y0.1,y1.1,y2.1]:=hx;subst hx';rw[B.agg]at hb ⊢;simp only[B.cons,B.nil]at hb ⊢;have f0:_=some y0:=hf 0 (tS,0) rfl;have f1:_=some y1:=hf 1 (tI,1) rfl;have f2:_=some y2:=hf 2 (eF,2) rfl;simp only[T.c_sInt,T.c_tI,T.c_tS]at f0 f1 f2;obtain⟨a0,p0,g0⟩:=(Rd.str (enc:=enc) (w:=w) (num:=num) (ρ := ρ) (N:=n) B T.uS) n (Nat.le_refl _) _ y0.1 y0.2 f0 (by omega);obtain⟨a1,p1,g1⟩:=(Rd.int (enc:=enc) (w:=w) (num:=num) (ρ := ρ) (b:=b) (N:=n) T.uI) n (Nat.le_refl _) _ y1.1 y1.2 f1 (by omega);obtain⟨a2,p2,g2⟩:=(E6 (enc:=enc) (w:=w) (num:=num) (ρ := ρ) B T n) n (Nat.le_refl _) _ y2.1 y2.2 f2 (by omega);refine⟨⟨a0,a1,a2⟩,?_,trivial⟩;have q:=(p0.piece (p1.piece (p2.piece (aL.done (by omega)))))
 rw[List.drop_zero]at q;exact q
theorem S8(N:Nat):Rd enc P w num ρ b N sStep (λs:Sl aE=>[s.av aE.av]) (λs n=>(s.nl=true->s.es=[])/\∃ms:List Nat,aL (λ_ _=>True) s.es ms/\ms.sum+1<=n/\∀m∈ms,1<=m):=
 (Rd.slice B (N:=N) (sz:=3) aE.av T.u_sStep T.c_tStep (by decide) (λx=>rfl) (λx=>rfl) (S6 B T N)).mono (Nat.le_succ N)
omit B T in
theorem SR:∀{l:List aA}{ms:List Nat},aL (fun(p:aA) n=>p.ok/\p.sz<=n) l ms->(∀p∈l,p.ok)/\aA.szL l<=ms.sum
 |_,_,.nil=>⟨by simp,by simp[aA.szL]⟩
 |_,_,.cons h r=>by obtain⟨h1,h2⟩:=SR r;refine⟨?_,by simp[aA.szL];omega⟩;intro p hp;rcases List.mem_cons.1 hp with rfl|hp;exact h.1;exact h1 p hp
theorem CJ(N:Nat)(hs:∀n,n+1<=N->Rd enc P w num ρ b n sPull (λs:Sl aA=>[s.av aA.av]) (λs n=>(s.nl=true->s.es=[])/\∃ms:List Nat,aL (λ(p:aA) n=>p.ok/\p.sz<=n) s.es ms/\ms.sum+1<=n/\∀m∈ms,1<=m)):Rd enc P w num ρ b N tPull (λx:aA=>[Str.av x.op]++([aH x.num]++([aH x.value]++([Str.av x.name]++([x.at_.av Lin.av]++([.bool x.dyn]++([aH x.check]++([x.fn.av aE.av]++([x.kav]++[]))))))))) (λp n=>p.ok/\p.sz<=n):=by
 intro fuel hN cs d ps h hb;obtain⟨fs,hu,hL⟩:=T.u_tPull;obtain⟨xs,n,hn,hx,hcl,hl,hf⟩:=jZ hu hL h;rw[T.c_tPull]at hcl;obtain⟨y0,y1,y2,y3,y4,y5,y6,y7,y8,rfl⟩:∃y0 y1 y2 y3 y4 y5 y6 y7 y8,xs=[y0,y1,y2,y3,y4,y5,y6,y7,y8]:=by
  match xs,hl with
  |[y0,y1,y2,y3,y4,y5,y6,y7,y8],_=>exact⟨y0,y1,y2,y3,y4,y5,y6,y7,y8,rfl⟩
 have hx':d = .agg [y0.1,y1.1,y2.1,y3.1,y4.1,y5.1,y6.1,y7.1,y8.1]:=hx;subst hx';rw[B.agg]at hb ⊢;simp only[B.cons,B.nil]at hb ⊢;have f0:_=some y0:=hf 0 (tS,0) rfl;have f1:_=some y1:=hf 1 (tI,1) rfl;have f2:_=some y2:=hf 2 (tI,2) rfl;have f3:_=some y3:=hf 3 (tS,3) rfl;have f4:_=some y4:=hf 4 (sLin,4) rfl;have f5:_=some y5:=hf 5 (tB,5) rfl;have f6:_=some y6:=hf 6 (tI,6) rfl;have f7:_=some y7:=hf 7 (sStep,7) rfl;have f8:_=some y8:=hf 8 (sPull,8) rfl;simp only[T.c_sLin,T.c_sPull,T.c_sStep,T.c_tB,T.c_tI,T.c_tS]at f0 f1 f2 f3 f4 f5 f6 f7 f8;obtain⟨a0,p0,g0⟩:=(Rd.str (enc:=enc) (w:=w) (num:=num) (ρ := ρ) (N:=n) B T.uS) n (Nat.le_refl _) _ y0.1 y0.2 f0 (by omega);obtain⟨a1,p1,g1⟩:=(Rd.int (enc:=enc) (w:=w) (num:=num) (ρ := ρ) (b:=b) (N:=n) T.uI) n (Nat.le_refl _) _ y1.1 y1.2 f1 (by omega);obtain⟨a2,p2,g2⟩:=(Rd.int (enc:=enc) (w:=w) (num:=num) (ρ := ρ) (b:=b) (N:=n) T.uI) n (Nat.le_refl _) _ y2.1 y2.2 f2 (by omega);obtain⟨a3,p3,g3⟩:=(Rd.str (enc:=enc) (w:=w) (num:=num) (ρ := ρ) (N:=n) B T.uS) n (Nat.le_refl _) _ y3.1 y3.2 f3 (by omega);obtain⟨a4,p4,g4⟩:=(XU (enc:=enc) (w:=w) (num:=num) (ρ := ρ) B T n) n (Nat.le_refl _) _ y4.1 y4.2 f4 (by omega);obtain⟨a5,p5,g5⟩:=(Rd.bool (enc:=enc) (w:=w) (num:=num) (ρ := ρ) (b:=b) (N:=n) T.uB) n (Nat.le_refl _) _ y5.1 y5.2 f5 (by omega);obtain⟨a6,p6,g6⟩:=(Rd.int (enc:=enc) (w:=w) (num:=num) (ρ := ρ) (b:=b) (N:=n) T.uI) n (Nat.le_refl _) _ y6.1 y6.2 f6 (by omega);obtain⟨a7,p7,g7⟩:=(S8 (enc:=enc) (w:=w) (num:=num) (ρ := ρ) B T n) n (Nat.le_refl _) _ y7.1 y7.2 f7 (by omega);obtain⟨a8,p8,g8⟩:=(hs n (by omega)) n (Nat.le_refl _) _ y8.1 y8.2 f8 (by omega);refine⟨.mk a0 a1 a2 a3 a4 a5 a6 a7 a8.nl a8.es a8.cl,?_,?_⟩
 rotate_left
 obtain⟨_,ms,m1,m2,_⟩:=g8;obtain⟨k1,k2⟩:=SR m1;refine⟨(aA.ok_iff _).2 ⟨a8.ok,k1⟩,?_⟩;rw[aA.sz_eq];show 1+aA.szL a8.es<=_;omega;have q:=(p0.piece (p1.piece (p2.piece (p3.piece (p4.piece (p5.piece (p6.piece (p7.piece (p8.piece (aL.done (by omega)))))))))))
 rw[List.drop_zero]at q;exact q
theorem QS(N:Nat)(h:Rd enc P w num ρ b N tPull (λx:aA=>[Str.av x.op]++([aH x.num]++([aH x.value]++([Str.av x.name]++([x.at_.av Lin.av]++([.bool x.dyn]++([aH x.check]++([x.fn.av aE.av]++([x.kav]++[]))))))))) (λp n=>p.ok/\p.sz<=n)):Rd enc P w num ρ b (N+1) sPull (λs:Sl aA=>[s.av aA.av]) (λs n=>(s.nl=true->s.es=[])/\∃ms:List Nat,aL (fun(p:aA) n=>p.ok/\p.sz<=n) s.es ms/\ms.sum+1<=n/\∀m∈ms,1<=m):=
 Rd.slice B (N:=N) (sz:=9) aA.av T.u_sPull T.c_tPull (by decide) (λx=>by rw[aA.av_eq];rfl) (λx=>rfl) h
theorem IP:∀N:Nat,Rd enc P w num ρ b N tPull (λx:aA=>[Str.av x.op]++([aH x.num]++([aH x.value]++([Str.av x.name]++([x.at_.av Lin.av]++([.bool x.dyn]++([aH x.check]++([x.fn.av aE.av]++([x.kav]++[]))))))))) (λp n=>p.ok/\p.sz<=n)
 |0=>CJ B T 0 (λn hn=>by omega)
 |N+1=>CJ B T (N+1) (λn hn=>(QS B T N (IP N)).mono (by omega))
end
section
variable{H:Type}{enc:TypeId×Value->H}{P:Program}{w:World}{num:Nm}{ρ : Rho}{b:DataW H->Nat}{bs:List (DataW H)->Nat}{tI tS tB tCoef tLin tStep tPull sCoef sLin sStep sPull eF sStr tLoop tAcc tNest sLoop:TypeId}
variable(B:BR b bs)(T:TyP P tI tS tB tCoef tLin tStep tPull sCoef sLin sStep sPull eF sStr)(N:TyN P tI tS tB tLin tPull sLin tLoop tAcc tNest sLoop)
include B T N
end
end
section
def fC(x:Int):List Int->List Int
 |[]=>[x]
 |y::r=>if decide (y<x) then y::fC x r else if decide (y=x) then y::r else x::y::r
theorem zL{x:Int}:∀(d rest:List Int),(∀y∈d,y<x)->fC x (d++rest)=d++fC x rest
 |[],rest,_=>rfl
 |y::d,rest,h=>by have h1:y<x:=h y (by simp);simp only[List.cons_append,fC,h1,decide_true,if_true];rw[zL d rest (λz hz=>h z (cE _ hz))]
theorem zT{x a:Int}:∀l:List Int,a∈fC x l↔a=x\/a∈l
 |[]=>by simp[fC]
 |y::r=>by
  simp only[fC];split;simp only[List.mem_cons,zT r];constructor<;>(intro h;rcases h with h|h|h<;>simp[h])
  split;rename_i h;simp at h;subst h;simp;simp
theorem zK(x:Int):∀l:List Int,(fC x l).length<=l.length+1
 |[]=>by simp[fC]
 |y::r=>by have:=zK x r;simp only[fC];split;simp;omega;split<;>simp
def IsL(l:List Int)(r:AV):Prop:=(∃nl cl,r = .sl nl (l.map aH) cl)\/r = .os (l.map aH) 1 false
theorem IsL.of{l:List Int}{r:AV}(h:pP 1 false (l.map aH) r):IsL l r:=by rcases h with ⟨he,nl,cl,rfl,_⟩|h;exact .inl ⟨nl,cl,by rw[he]⟩;exact .inr h
section
variable{pg:Pg}
def XY(kb:Nat)(h:Hp)(k1:Nat)(l:List Int)(r:AV)(h':Hp):Prop:=
 ∃k2,Own h' k2 1 false r (l.map aH)/\(k2=k1\/k2=kb+5\/k2=kb+9)/\∀k,k≠kb+1->k≠kb+5->k≠kb+9->h'.get k=h.get k
theorem vE{h:Hp}{k e:Nat}{l:List Int}(hg:h.get k=some (e,.blk (l.map aH) 1 false false false)){n:Nat}(hn:n=l.length):Own h k 1 false (.rf k e 0 n n) (l.map aH):=by subst hn;exact .inr ⟨e,_,by simp,hg,fJ l⟩
theorem AA(l:List Int):(l.map aH).all (λv=>v.cells.length==1)=true:=by rw[eE];intro x hx;obtain⟨y,_,rfl⟩:=List.mem_map.1 hx;rfl
theorem XI(nl cl:Bool)(d rest:List Int):∃c,∀h,iB h 1 false true false [.sl nl ((d++rest).map aH) cl,.int .i64 (d.length:Int)]=some (.sl nl (d.map aH) c,.pat [] []):=by refine⟨(nl||cl)&&((d.length:Int)==((((d++rest).map aH).length:Nat):Int)),λh=>?_⟩;simp only[iB,iI,iH,Bool.false_eq_true,if_false,if_true,Option.getD_none,Option.getD_some,AA,Option.isSome_none];rw[if_pos ⟨by omega,by omega,by omega,by simp only[bU,dA];omega,trivial⟩];simp[val]
theorem SW(nl cl:Bool)(d rest:List Int):∃c,∀h,iB h 1 true false false [.sl nl ((d++rest).map aH) cl,.int .i64 (d.length:Int)]=some (.sl nl (rest.map aH) c,.pat [] []):=by
 refine⟨(nl||cl)&&true,λh=>?_⟩;simp only[iB,iI,iH,Bool.false_eq_true,if_false,if_true,Option.getD_none,Option.getD_some,AA,Option.isSome_none];rw[if_pos ⟨by omega,by simp only[bU,dA];omega,by omega,by omega,trivial⟩];have e:((d++rest).map aH).drop (d.length:Int).toNat=rest.map aH:=by rw[Int.toNat_natCast,List.map_append,List.drop_left' (by simp)]
 rw[e,List.take_of_length_le (by simp only[bU,dA];omega)];simp[val]
theorem xL:∀l:List Int,bL (l.map aH)=true
 |[]=>rfl
 |x::r=>by simp only[List.map_cons,bL,xL r];rfl
theorem OA(l:List Int)(a b:Nat):bL (((l.map aH).drop a).take b)=true:=by rw[<-List.map_drop,<-List.map_take];exact xL _
theorem EN{H:Hp}{k e:Nat}{cs:List AV}{ag ti fz:Bool}(hg:H.get k=some (e,.blk cs 1 ag ti fz)){m n:Nat}(hm:m<=n)(hmx:ti=false) :
  iB H 1 false true false [.rf k e 0 n n,.int .i64 (m:Int)]=some (.rf k e 0 m n,.pat [k] []):=by
 subst hmx;simp only[iB,iI,iH,Bool.false_eq_true,if_false,if_true,Option.getD_none,Option.getD_some,hg];rw[if_pos (by simp;omega)];simp
theorem OL{H:Hp}{k e:Nat}{cs:List AV}{ag fz:Bool}(hg:H.get k=some (e,.blk cs 1 ag false fz)){m n:Nat}(hm:m<n) :
  iB H 1 true false false [.rf k e 0 n n,.int .i64 (m:Int)]=some (.rf k e m (n-m) (n-m),.pat [k] []):=by
 simp only[iB,iI,iH,Bool.false_eq_true,if_false,if_true,Option.getD_none,Option.getD_some,hg];rw[if_pos (by simp;omega)];rw[if_neg (by omega)];simp
theorem SV{H:Hp}{k e:Nat}{cs:List AV}{ag fz:Bool}(hg:H.get k=some (e,.blk cs 1 ag false fz)){n:Nat}(hn:n≠0) :
  iB H 1 true false false [.rf k e 0 n n,.int .i64 (n:Int)]=some (.sl false [] false,.pat [k] []):=by
 simp only[iB,iI,iH,Bool.false_eq_true,if_false,if_true,Option.getD_none,Option.getD_some,hg];rw[if_neg (by rintro⟨_,_,_,_,_,_,_,h|h|h⟩<;>first|omega|cases h),if_pos (by simp)]
theorem IG{H:Hp}{k e:Nat}{l:List Int}{ag ti fz:Bool}(hg:H.get k=some (e,.blk (l.map aH) 1 ag ti fz)){off m cap:Nat}(hm:off+m<=l.length){xs:List Int}(hx:(l.drop off).take m=xs) :
  aO H 1 false (.rf k e off m cap)=some (xs.map aH,xs.length,[k]):=by
 subst hx;simp only[aO,hg];rw[if_pos ⟨trivial,by simpa using hm,by simpa using OA l off m⟩];simp;omega
theorem CD{H:Hp}{nl cl:Bool}(xs:List Int):aO H 1 false (.sl nl (xs.map aH) cl)=some (xs.map aH,xs.length,[]):=by simp[aO,fJ]
theorem AK{H:Hp}{K:Nat}{src:AV}{xs:List Int}{rd:List Nat}(hs:aO H 1 false src=some (xs.map aH,xs.length,rd))(hx:xs≠[])(hl:xs.length<=1073741824) :
  jN H K 1 false 8 [.sl false [] true,src]=some (.rf K (H.next K) 0 xs.length xs.length,.pat (K::rd) [⟨K,H.next K,.blk (xs.map aH) 1 false false false⟩]):=by
 have hn:xs.length≠0:=by simpa using hx
 simp[jN,hs,i6,hn,hl,aV]
theorem MT{H:Hp}{K:Nat}{src:AV}{rd:List Nat}(hs:aO H 1 false src=some ([],0,rd)) :
  jN H K 1 false 8 [.sl false [] true,src]=some (.sl false [] true,.pat rd []):=by
 simp[jN,hs,i6]
theorem O4{H:Hp}{K K1 e1:Nat}{es:List Int}(hg:H.get K1=some (e1,.blk (es.map aH) 1 false false false))(hk:K1≠K){src:AV}{xs:List Int}{rd:List Nat}(hs:aO H 1 false src=some (xs.map aH,xs.length,rd))(hx:xs≠[])
  (hl:es.length+xs.length<=1073741824) {n:Nat} (hn:n=es.length) :
  jN H K 1 false 8 [.rf K1 e1 0 n n,src]=some (.rf K (H.next K) 0 (es.length+xs.length) (es.length+xs.length),.pat (K::K1::rd) [⟨K1,e1,.dead⟩,⟨K,H.next K,.blk ((es++xs).map aH) 1 false false false⟩]):=by
 have hx0:xs.length≠0:=by simpa using hx
 subst hn;have h2:(K1==K)=false:=by simpa using hk
 simp only[jN,hs,i6,hg,hx0,if_false,true_and,Nat.zero_add,Nat.mul_one];rw[if_pos (by simp),if_neg (by omega)];simp only[hl,decide_true,Bool.true_and,h2,Bool.not_false,Bool.false_eq_true,if_false,show (8:Nat)<=65536 from by decide,if_true];have ht:List.take es.length (List.map aH es)=List.map aH es:=by rw[List.take_of_length_le (by simp)]
 simp[ht]
theorem MS{H:Hp}{K K1 e1:Nat}{es:List Int}(hg:H.get K1=some (e1,.blk (es.map aH) 1 false false false)){src:AV}{rd:List Nat}(hs:aO H 1 false src=some ([],0,rd)){n:Nat}(hn:n=es.length) :
  jN H K 1 false 8 [.rf K1 e1 0 n n,src]=some (.rf K1 e1 0 n n,.pat (K1::rd) []):=by
 subst hn;simp only[jN,hs,i6,hg];rw[if_pos (by simp)];simp
attribute [local go_sem] Nat.left_eq_add Nat.add_eq_left
theorem aRc{f:Nat}(hf:pg.fs f=some s9)(kb:Nat)(h:Hp)(k1 e:Nat)(l:List Int)(hb:l.length<big)(x:Int)(hg:h.get k1=some (e,.blk (l.map aH) 1 false false false))
  (n1:(k1=kb+1)=False) (n5:(k1=kb+5)=False) (n9:(k1=kb+9)=False) (hne:l≠[]) :
  cW pg f [.rf k1 e 0 l.length l.length,.int .i64 x] kb h (XY kb h k1 (fC x l)):=by
 have n1':(kb+1=k1)=False:=by rw[<-n1];exact propext eq_comm
 have n5':(kb+5=k1)=False:=by rw[<-n5];exact propext eq_comm
 have n9':(kb+9=k1)=False:=by rw[<-n9];exact propext eq_comm
 refine cW.ofX hf ?_;unfold s9;simp only[big]at hb;refine Wk ?_;refine aN l (λd r env hp=>env=v6 (.rf k1 e 0 l.length l.length) (.int .i64 x) (.int .i64 d.length)/\hp=h/\∀y∈d,y<x) ?_ ?_ ?_;exact⟨rfl,rfl,by simp⟩;rintro env hp ⟨rfl,rfl,hI⟩;have s2:∀H,aO H 1 false (.sl false [.int .i64 x] true)=some ([x].map aH,[x].length,[]):=λH=>CD [x];have s0:∀H,aO H 1 false (.sl false [] false)=some ([],0,[]):=λH=>CD [];have hl':l=l++[]:=by simp
 have hres:fC x l=l++[x]:=by have:=zL l [] hI;rwa [List.append_nil]at this
 have hd0:l≠[]:=hne;have hlo:=EN (H:=hp) hg (m:=(l).length) (n:=l.length) (by omega) rfl;simp only[qO,v6,↓hlo,go_sem,seval];have s1:=IG (off:=0) (m:=(l).length) (cap:=l.length) (xs:=l) hg (by omega) (by rw[hl'];simp);rw[eQ,AK s1 hd0 (by omega)];simp only[n1,n5,n9,n1',n5',n9',go_sem,seval];rw[eQ,O4 (es:=l) (xs:=[x]) (by rw[aB,if_pos rfl]) (by omega) (s2 _) (by simp) (by simp;omega) rfl];have hhi:∀H:Hp,H.get k1=hp.get k1->iB H 1 true false false [.rf k1 e 0 l.length l.length,.int .i64 (l.length:Int)]=some (.sl false [] false,.pat [k1] []):=λH h=>SV (h.trans hg) (by simpa using hne);simp only[n1,n5,n9,n1',n5',n9',hg,↓hhi,go_sem,seval];rw[eQ,MS (es:=l++[x]) (by rw[aB,if_pos rfl]) (s0 _) (by simp)];simp only[n1,n5,n9,n1',n5',n9',go_sem,seval];refine⟨by simp[bT,bS,R.apart,R.uses,X.tmp,Eff.apart,lP,n1,n5,n9,n1',n5',n9',Nat.testBit],?_⟩;rw[hres];refine⟨kb+5,vE (by simp only[aB,if_true,Nat.reduceEqDiff,Nat.left_eq_add,Nat.add_eq_left,if_false,List.nil_append,List.append_assoc,List.singleton_append,List.cons_append]) (by simp),by simp,?_⟩;intro k q1 q5 q9;simp only[aB,Ne.symm q1,Ne.symm q5,Ne.symm q9,if_false];rintro d y r env hp hes ⟨rfl,rfl,hI⟩;have hb':(d++y::r).length<16777216:=by rw[<-hes];exact hb
 have hb2:(d++y::r).length<=big:=by simp only[big];omega
 have hw:=cL hb2;have hget:l[d.length]?=some y:=by rw[hes];simp
 have hlt:d.length<l.length:=by rw[hes];simp
 have e1:decide ((d.length:Int)<(l.length:Int))=true:=by simp;omega
 have e2:((d.length:Int)<(l.length:Int))=True:=eq_true (by omega);cases hyx:decide (y<x)
 case true=>simp only[qO,v6,e1,e2,hg,Nat.mul_one,Nat.zero_add,hget,hyx,hw,go_sem,seval];refine⟨rfl,?_⟩;intro z hz;rw[kE,List.mem_singleton]at hz;rcases hz with hz|rfl;exact hI z hz;simpa using hyx
 case false=>
  have hp2:=zL d (y::r) hI;rw[<-hes]at hp2;have hp3:fC x (y::r)=if decide (y=x) then y::r else x::y::r:=by rw[fC,hyx];rfl
  cases hye:decide (y=x)
  case true=>
   have hres:fC x l=l:=by rw[hp2,hp3,hye,hes];rfl
   simp only[qO,v6,e1,e2,hg,Nat.mul_one,Nat.zero_add,hget,hyx,hye,go_sem,seval];rw[hres];exact⟨k1,vE hg rfl,.inl rfl,λ_ _ _ _=>rfl⟩
  case false=>
   have hres:fC x l=d++x::y::r:=by rw[hp2,hp3,hye];rfl
   have hl':l=d++(y::r):=hes;have s2:∀H,aO H 1 false (.sl false [.int .i64 x] true)=some ([x].map aH,[x].length,[]):=λH=>CD [x];have s0:∀H,aO H 1 false (.sl false [] false)=some ([],0,[]):=λH=>CD [];have hll:l.length=d.length+(r.length+1):=by rw[hes];simp
   rcases EG d with hdn|⟨d1,d2,hdc⟩
   subst hdn;have e1:decide ((0:Int)<(l.length:Int))=true:=by simp;omega
   have e2:((0:Int)<(l.length:Int))=True:=eq_true (by omega);have hget:l[0]?=some y:=by rw[hes];simp
   have hlo:iB hp 1 false true false [.rf k1 e 0 l.length l.length,.int .i64 0]=some (.rf k1 e 0 0 l.length,.pat [k1] []):=EN (H:=hp) hg (m:=0) (n:=l.length) (by omega) rfl;simp only[qO,v6,e1,e2,hg,Nat.mul_one,Nat.zero_add,hget,hyx,hye,↓hlo,go_sem,seval];have s1:=IG (off:=0) (m:=0) (cap:=l.length) (xs:=[]) hg (by omega) (by simp);rw[eQ,MT s1];simp only[n1,n5,n9,n1',n5',n9',go_sem,seval];rw[eQ,AK (xs:=[x]) (s2 _) (by simp) (by simp)];have hhi:∀H:Hp,H.get k1=hp.get k1->iB H 1 true false false [.rf k1 e 0 l.length l.length,.int .i64 0]=some (.rf k1 e 0 (l.length-0) (l.length-0),.pat [k1] []):=λH h=>OL (h.trans hg) (by omega);simp only[n1,n5,n9,n1',n5',n9',hg,↓hhi,go_sem,seval];have s3:∀H:Hp,H.get k1=hp.get k1->aO H 1 false (.rf k1 e 0 (l.length-0) (l.length-0))=some (((y::r)).map aH,((y::r)).length,[k1]):=λH h=>IG (h.trans hg) (by omega) (by rw[hl'];simp);rw[eQ,O4 (es:=[x]) (xs:=(y::r)) (by rw[aB,if_pos rfl];rfl) (by omega) (s3 _ (by simp only[aB,n1',n5',n9',if_false])) (by simp) (by simp;omega) (by simp)];simp only[n1,n5,n9,n1',n5',n9',go_sem,seval];refine⟨by simp[bT,bS,R.apart,R.uses,X.tmp,Eff.apart,lP,n1,n5,n9,n1',n5',n9',Nat.testBit],?_⟩;rw[hres];refine⟨kb+9,vE (by simp only[aB,if_true,Nat.reduceEqDiff,Nat.left_eq_add,Nat.add_eq_left,if_false,List.nil_append,List.append_assoc,List.singleton_append,List.cons_append];rfl) (by simp;omega),by simp,?_⟩;intro k q1 q5 q9;simp only[aB,Ne.symm q1,Ne.symm q5,Ne.symm q9,if_false];have hd0:d≠[]:=by rw[hdc];simp
   have hlo:=EN (H:=hp) hg (m:=(d).length) (n:=l.length) (by omega) rfl;simp only[qO,v6,e1,e2,hg,Nat.mul_one,Nat.zero_add,hget,hyx,hye,↓hlo,go_sem,seval];have s1:=IG (off:=0) (m:=(d).length) (cap:=l.length) (xs:=d) hg (by omega) (by rw[hl'];simp);rw[eQ,AK s1 hd0 (by omega)];simp only[n1,n5,n9,n1',n5',n9',go_sem,seval];rw[eQ,O4 (es:=d) (xs:=[x]) (by rw[aB,if_pos rfl]) (by omega) (s2 _) (by simp) (by simp;omega) rfl];have hhi:∀H:Hp,H.get k1=hp.get k1->iB H 1 true false false [.rf k1 e 0 l.length l.length,.int .i64 ((((d).length):Nat):Int)]=some (.rf k1 e (d).length (l.length-(d).length) (l.length-(d).length),.pat [k1] []):=λH h=>OL (h.trans hg) (by omega);simp only[n1,n5,n9,n1',n5',n9',hg,↓hhi,go_sem,seval];have s3:∀H:Hp,H.get k1=hp.get k1->aO H 1 false (.rf k1 e (d).length (l.length-(d).length) (l.length-(d).length))=some (((y::r)).map aH,((y::r)).length,[k1]):=λH h=>IG (h.trans hg) (by omega) (by rw[hl'];simp);rw[eQ,O4 (es:=d++[x]) (xs:=(y::r)) (by rw[aB,if_pos rfl]) (by omega) (s3 _ (by simp only[aB,n1',n5',n9',if_false])) (by simp) (by simp;omega) (by simp)];simp only[n1,n5,n9,n1',n5',n9',go_sem,seval];refine⟨by simp[bT,bS,R.apart,R.uses,X.tmp,Eff.apart,lP,n1,n5,n9,n1',n5',n9',Nat.testBit],?_⟩;rw[hres];refine⟨kb+9,vE (by simp only[aB,if_true,Nat.reduceEqDiff,Nat.left_eq_add,Nat.add_eq_left,if_false,List.nil_append,List.append_assoc,List.singleton_append,List.cons_append]) (by simp;omega),by simp,?_⟩;intro k q1 q5 q9;simp only[aB,Ne.symm q1,Ne.symm q5,Ne.symm q9,if_false]
theorem aRb{f:Nat}(hf:pg.fs f=some s9)(kb:Nat)(h:Hp)(k1:Nat)(nl cl:Bool)(x:Int) :
  cW pg f [.sl nl [] cl,.int .i64 x] kb h (XY kb h k1 [x]):=by
 have s2:∀H,aO H 1 false (.sl false [.int .i64 x] true)=some ([x].map aH,[x].length,[]):=λH=>CD [x];have s0:∀H nl cl,aO H 1 false (.sl nl [] cl)=some ([],0,[]):=λH nl cl=>by simp[aO,aV]
 obtain⟨c1,q1⟩:=XI nl cl [] [];obtain⟨c2,q2⟩:=SW nl cl [] [];simp only[List.append_nil,List.map_nil,List.length_nil,Int.natCast_zero]at q1 q2;refine cW.ofX hf ?_;unfold s9;refine Wk ?_;rw[nP];simp only[qO,ND,Tev.clear,↓q1,go_sem,seval];rw[eQ,MT (s0 _ _ _)];refine Wk ?_;rw[eQ,AK (xs:=[x]) (s2 _) (by simp) (by simp)];simp only[↓q2,go_sem,seval];rw[eQ,MS (es:=[x]) (by rw[aB,if_pos rfl];rfl) (s0 _ _ _) (by simp)];refine Wk ?_;refine⟨by simp[bT,bS,R.apart,R.uses,X.tmp,Eff.apart,lP,Nat.testBit],?_⟩;refine⟨kb+5,vE (l:=[x]) (by rw[aB,if_pos rfl];rfl) rfl,by simp,?_⟩;intro k q1 q5 q9;simp only[aB,Ne.symm q5,if_false]
theorem aRd{f:Nat}(hf:pg.fs f=some s9)(kb:Nat)(h:Hp)(k1 e:Nat)(x:Int)(hg:h.get k1=some (e,.blk [] 1 false false false))
  (n1:(k1=kb+1)=False) (n5:(k1=kb+5)=False) (n9:(k1=kb+9)=False) :
  cW pg f [.rf k1 e 0 0 0,.int .i64 x] kb h (XY kb h k1 [x]):=by
 have n1':(kb+1=k1)=False:=by rw[<-n1];exact propext eq_comm
 have n5':(kb+5=k1)=False:=by rw[<-n5];exact propext eq_comm
 have n9':(kb+9=k1)=False:=by rw[<-n9];exact propext eq_comm
 have s2:∀H,aO H 1 false (.sl false [.int .i64 x] true)=some ([x].map aH,[x].length,[]):=λH=>CD [x];have s0:∀H:Hp,H.get k1=h.get k1->aO H 1 false (.rf k1 e 0 0 0)=some ([],0,[k1]):=λH hh=>by simp[aO,hh,hg,bL]
 have q1:∀H:Hp,H.get k1=h.get k1->iB H 1 false true false [.rf k1 e 0 0 0,.int .i64 0]=some (.rf k1 e 0 0 0,.pat [k1] []):=λH hh=>by simp[iB,iI,iH,hh,hg]
 have q2:∀H:Hp,H.get k1=h.get k1->iB H 1 true false false [.rf k1 e 0 0 0,.int .i64 0]=some (.rf k1 e 0 0 0,.pat [k1] []):=λH hh=>by simp[iB,iI,iH,hh,hg]
 refine cW.ofX hf ?_;unfold s9;refine Wk ?_;rw[nP];simp only[qO,ND,Tev.clear,↓q1,go_sem,seval];rw[eQ,MT (s0 _ rfl)];refine Wk ?_;rw[eQ,AK (xs:=[x]) (s2 _) (by simp) (by simp)];simp only[n1,n5,n9,n1',n5',n9',↓q2,go_sem,seval];rw[eQ,MS (es:=[x]) (by rw[aB,if_pos rfl];rfl) (s0 _ (by simp only[aB,n1',n5',n9',if_false])) (by simp)];refine Wk ?_;refine⟨by simp[bT,bS,R.apart,R.uses,X.tmp,Eff.apart,lP,Nat.testBit,n1,n5,n9,n1',n5',n9'],?_⟩;refine⟨kb+5,vE (l:=[x]) (by rw[aB,if_pos rfl];rfl) rfl,by simp,?_⟩;intro k q1 q5 q9;simp only[aB,Ne.symm q5,if_false]
theorem aKN{f:Nat}(hf:pg.fs f=some s9){kb:Nat}{h:Hp}{k1:Nat}{v:AV}{l:List Int}(o:Own h k1 1 false v (l.map aH))(hb:l.length<big)(x:Int)(n1:k1≠kb+1)(n5:k1≠kb+5)(n9:k1≠kb+9) :
  cW pg f [v,.int .i64 x] kb h (XY kb h k1 (fC x l)):=by
 rcases o with ⟨he,nl,cl,rfl,_⟩|⟨e,cs,rfl,hg,hu⟩
 have:l=[]:=by simpa using he
 subst this;exact aRb hf kb h k1 nl cl x;rw[fJ]at hu;cases hu;by_cases hl:l=[]
 subst hl;exact aRd hf kb h k1 e x hg (eq_false n1) (eq_false n5) (eq_false n9);have:=aRc hf kb h k1 e l hb x hg (eq_false n1) (eq_false n5) (eq_false n9) hl;simpa using this
end
end
end Go.Tev
