import Derived.Test.YtilkdbbkkcnocaaGreatDoorSAU
import Derived.Test.YtilkdbbkkcnocaaGreatDoorSAV
import Derived.Test.YtilkdbbkkcnocaaGreatDoorSAR
import Derived.Test.YtilkdbbkkcnocaaGreatDoorSAT
import Derived.ChangeArms
import Derived.Test.YtilkdbbkkcnocaaGreatDoorSAQ
set_option linter.all false
namespace Go.Tev
section
section
variable{pg:Pg}
end
end
section
def aHs:List AV:=(List.range 256).map λi => .bool (decide (48<=i)&&decide (i<=57))
theorem W6(c:UInt8):aHs[c.toNat]?=some (.bool (cT c)):=by have h:=UInt8.toNat_lt c;simp only[aHs,List.getElem?_map];rw[List.getElem?_range h];rfl
section
variable{pg:Pg}
theorem c171(hf:pg.fs 171=some P0)(c:UInt8):Ret pg 171 [.fp (.agg aHs),.int .u8 c.toNat] (.bool (cT c)):=by have h:=UInt8.toNat_lt c;have e1:(0<=(c.toNat:Int))=True:=eq_true (by omega);have e2:((c.toNat:Int)<((256:Nat):Int))=True:=eq_true (by omega);have e3:((c.toNat:Int)<256)=True:=eq_true (by omega);refine Ret.ofX hf ?_;unfold P0;have hg:=W6 c;simp only[e1,e2,e3,Nat.mul_one,hg,go_sem,seval]
end
end
section
section
variable{pg:Pg}
end
end
section
structure xJ{H:Type}(b:DataW H->Nat)(bs:List (DataW H)->Nat):Prop where
 nil:bs []=0
 cons:∀x r,bs (x::r)=b x+bs r
 sl:∀e s,b (.slice e s)=bs e+bs s+1
 agg:∀p,b (.agg p)=bs p+1
 str:∀s,b (.lit (.string s))=s.length+1
 one:∀d,1<=b d
theorem xJ.sum{H:Type}{b:DataW H->Nat}{bs:List (DataW H)->Nat}(B:xJ b bs):∀l,bs l=(l.map b).sum
 |[]=>by simp[B.nil]
 |x::r=>by rw[B.cons,B.sum r];simp
theorem aGt{l:List Nat}:∀{i:Nat}{m:Nat},l[i]?=some m->m<=l.sum:=by
 induction l with
 |nil=>intro i m h;simp at h
 |cons x r ih=>
  intro i m h;cases i with
  |zero=>simp at h;subst h;simp
  |succ i=>have:=ih (by simpa using h);simp;omega
theorem kX:∀{l:List Nat},(∀m∈l,1<=m)->l.length<=l.sum
 |[],_=>by simp
 |x::r,h=>by have h1:=h x (by simp);have h2:=kX (l:=r) (λm hm=>h m (bT _ hm));simp;omega
theorem wU{α : Type}{Pr:Nat -> α -> Prop}:∀n,(∀i,i<n->∃x,Pr i x)->∃l:List α,l.length=n/\∀i x,l[i]?=some x->Pr i x
 |0,_=>⟨[],rfl,λi x h=>by simp at h⟩
 |n+1,h=>by
  obtain⟨l,h1,h2⟩:=wU n (λi hi=>h i (by omega));obtain⟨x,hx⟩:=h n (by omega);refine⟨l++[x],by simp[h1],λi y hy=>?_⟩;by_cases hi:i<l.length;rw[List.getElem?_append_left hi]at hy;exact h2 i y hy;rw[u4 (by omega)]at hy;have:i-l.length=0:=by rcases Nat.eq_zero_or_pos (i-l.length) with q|q;exact q;rw[cY (by simp;omega)]at hy;cases hy
  rw[this]at hy;simp at hy;subst hy;have:i=n:=by omega
  subst this;exact hx
theorem aJ.app{α β : Type}{R : α -> β -> Prop}{a b:List α}{c d:List β}(h1:aJ R a c)(h2:aJ R b d):aJ R (a++b) (c++d):=by
 induction h1 with
 |nil=>exact h2
 |cons h _ ih=>exact .cons h ih
theorem aJ.mk_get{α β : Type}{R : α -> β -> Prop}:∀{l:List α}{m:List β},l.length=m.length->(∀(i:Nat)(x : α)(y : β),l[i]?=some x->m[i]?=some y->R x y)->aJ R l m
 |[],[],_,_ => .nil
 |x::r,y::s,hl,h => .cons (h 0 x y rfl rfl) (aJ.mk_get (by simpa using hl) (λi a b ha hb=>h (i+1) a b (by simpa using ha) (by simpa using hb)))
 |[],_::_,hl,_=>by simp at hl
 |_::_,[],hl,_=>by simp at hl
theorem aJ.piece{α β : Type}{R : α -> β -> Prop}{a b:List α}{cs:List β}{o n:Nat}(h1:aJ R a ((cs.drop o).take n))(h2:aJ R b (cs.drop (o+n))):aJ R (a++b) (cs.drop o):=by have:=h1.app h2;rwa [<-List.drop_drop,List.take_append_drop]at this
theorem aJ.done{α β : Type}{R : α -> β -> Prop}{cs:List β}{o:Nat}(h:cs.length=o):aJ R [] (cs.drop o):=by subst h;simp;exact .nil
section
variable{H:Type}{enc:TypeId×Value->H}{P:Program}{w:World}{num:Nm}{ρ : Rho}{b:DataW H->Nat}{bs:List (DataW H)->Nat}
def noF(_:Nat):Prop:=False
def Rd(enc:TypeId×Value->H)(P:Program)(w:World)(num:Nm)(ρ : Rho)(b:DataW H->Nat)(N:Nat)(t:TypeId){α : Type}(cells : α -> List AV)(good : α -> Nat->Prop):Prop:=
 ∀fuel,fuel<=N->∀cs d ps,DataW.trod enc P w 0 (λ_=>true) true fuel t cs=some (d,ps)->b d<=1048576->∃x : α,aJ (Rv num ρ w noF) (cells x) cs/\good x (b d)
theorem Rd.int{N:Nat}{t:TypeId}(ht:P.underlying t=some (.int .i64)):Rd enc P w num ρ b N t (λn:Int=>[aV n]) (λ_ _=>True):=by intro fuel hN cs d ps h _;obtain⟨n,rfl,_,_⟩:=DataW.trod_int ht h;exact⟨n,.cons (.int _ _) .nil,trivial⟩
theorem Rd.bool{N:Nat}{t:TypeId}(ht:P.underlying t=some .bool):Rd enc P w num ρ b N t (λn:Bool=>[.bool n]) (λ_ _=>True):=by intro fuel hN cs d ps h _;obtain⟨n,rfl,_⟩:=DataW.trod_bool ht h;exact⟨n,.cons (.bool _) .nil,trivial⟩
theorem Rd.str{N:Nat}(B:xJ b bs){t:TypeId}(ht:P.underlying t=some .string):Rd enc P w num ρ b N t (λs:Str=>[Str.av s]) (λ_ _=>True):=by
 intro fuel hN cs d ps h hb;obtain⟨s,rfl,hx,_⟩:=DataW.trod_string ht h;cases hx;rw[B.str]at hb;have hl:s.data.toList.length<=big:=by simp only[big];omega
 refine⟨⟨s.data.toList,hl⟩,.cons ?_ .nil,trivial⟩;exact Rv.str (num:=num) (ρ := ρ) (w:=w) (F:=noF) s.data.toList
theorem LD{a:Addr}{n:Nat}{cs:List Value}(h:w.cells? 0 a n=some cs):cs.length=n/\∀j,j<n->w.cell? (a.add j)=cs[j]?:=by
 simp only[World.cells?,Nat.zero_le,if_true]at h
 have hl:∀(l:List Nat)(r:List Value),(l.mapM λi=>w.cell? (a.add i))=some r->r.length=l.length/\∀(j k:Nat),l[j]?=some k->w.cell? (a.add k)=r[j]?:=by
  intro l
  induction l with
  |nil=>intro r hr;simp at hr;subst hr;exact⟨rfl,λj k hk=>by simp at hk⟩
  |cons x l ih=>
   intro r hr;simp only[List.mapM_cons,Option.bind_eq_bind,Option.bind_eq_some_iff,Option.pure_def,aU]at hr;obtain⟨v,hv,r',hr',rfl⟩:=hr;obtain⟨i1,i2⟩:=ih r' hr';refine⟨by simp[i1],?_⟩;intro j k hk;cases j with
   |zero=>simp at hk;subst hk;simpa using hv
   |succ j=>simpa using i2 j k (by simpa using hk)
 obtain⟨h1,h2⟩:=hl _ _ h;rw[List.length_range]at h1;exact⟨h1,λj hj=>h2 j j (by rw[List.getElem?_range hj])⟩
theorem EG(a:Addr):a.add 0=a:=by simp[Addr.add]
theorem LL(b off n:Nat):(Addr.add ⟨b,off,none⟩ n)=⟨b,off+n,none⟩:=by unfold Addr.add;split;rename_i h0;simp[h0];rfl
theorem Rd.slice{N:Nat}(B:xJ b bs){t e:TypeId}{sz:Nat}{α : Type}{cells : α -> List AV}{good : α -> Nat->Prop}(enc1 : α -> AV)(ht:P.underlying t=some (.slice e))(hce:P.cellsOf e=sz)(hsz:0<sz)
  (hcells:∀x,(enc1 x).cells=cells x) (hlen:∀x,(cells x).length=sz) (he:Rd enc P w num ρ b N e cells good) :
  Rd enc P w num ρ b (N+1) t (λs:Sl α => [s.av enc1]) (λs n=>(s.nl=true->s.es=[])/\∃ms:List Nat,aJ good s.es ms/\ms.sum+1<=n/\∀m∈ms,1<=m):=by
 intro fuel hN cs d ps h hb;rcases DataW.trod_slice ht h with ⟨rfl,hx⟩|⟨a,len,cap,elems,rest,n,hfn,rfl,hx,_,hlc,hcm,hel,hes,_,_⟩
 cases hx;exact⟨⟨true,[],false,by simp⟩,.cons (.nsl _) .nil,λ_=>rfl,[],.nil,by simpa using B.one _,by simp⟩;cases hx;rw[B.sl,B.sum,B.sum]at hb ⊢;rw[hce]at hes;have hel':elems.length=len:=hel
 have key:∀i,i<len->∃x : α,∃cs',w.cells? 0 (a.add (i*sz)) sz=some cs'/\aJ (Rv num ρ w noF) (cells x) cs'/\good x ((elems.map λy=>b y.1).getD i 0):=by
  intro i hi;have h1:=hes i hi;rw[cZ (by omega),Option.bind_eq_some_iff]at h1;obtain⟨cs',h2,h3⟩:=h1;have hm:((elems.map (·.1)).map b)[i]?=some (b (elems[i]'(by omega)).1):=by simp[cZ (show i<elems.length by omega)]
  have hle:=aGt hm;obtain⟨x,h4,h5⟩:=he n (by omega) cs' (elems[i]'(by omega)).1 (elems[i]'(by omega)).2 h3 (by omega);refine⟨x,cs',h2,h4,?_⟩;rw[List.getD_eq_getElem?_getD];simpa[cZ (show i<elems.length by omega)] using h5
 obtain⟨es,hesl,hese⟩:=wU len key;have hbig:es.length<=big:=by
  have h1:((elems.map (·.1)).map b).length<=((elems.map (·.1)).map b).sum:=kX (λm hm=>by
   obtain⟨d,_,rfl⟩:=List.mem_map.1 hm;exact B.one d)
  simp only[cP]at h1;simp only[big];omega
 refine⟨⟨false,es,false,hbig⟩,.cons ?_ .nil,(by intro h;cases h),(elems.map λy=>b y.1),?_,?_,?_⟩;have hne:es≠[]->a.spot=none:=by
  intro h0;have hl0:0<len:=by rw[<-hesl];exact List.length_pos_iff.2 h0
  obtain⟨x,cs',h1,_,_⟩:=key 0 hl0;obtain⟨c1,c2⟩:=LD h1;have:=c2 0 hsz;rw[Nat.zero_mul,EG,EG,cZ (by omega)]at this;simp only[World.cell?]at this;split at this;cases hs:a.spot with
  |none=>rfl
  |some v=>rw[hs]at this;simp at this
  cases this
 obtain⟨ab,ao,asp⟩:=a;have hcell:∀(i:Nat)(x : α),es[i]?=some x->∃cs',cs'.length=sz/\aJ (Rv num ρ w noF) (cells x) cs'/\∀j,j<sz->w.cell? ⟨ab,ao+(i*sz+j),none⟩=cs'[j]?:=by
  intro i x hx;obtain⟨cs',h1,h2,_⟩:=hese i x hx;have hn0:es≠[]:=by intro h;subst h;simp at hx
  have hsp:=hne hn0;simp only at hsp;subst hsp;obtain⟨c1,c2⟩:=LD h1;refine⟨cs',c1,h2,λj hj=>?_⟩;have:=c2 j hj;rw[LL,LL,Nat.add_assoc]at this;exact this
 have hmap:∀(i:Nat)(e':AV),(es.map enc1)[i]?=some e'->∃x : α,es[i]?=some x/\e'=enc1 x:=by intro i e' h;rw[List.getElem?_map,lH]at h;obtain⟨x,h1,h2⟩:=h;exact⟨x,h1,h2.symm⟩
 have hv:(Value.slice (some ⟨ab,ao,asp⟩) len cap) = .slice (some ⟨ab,ao,asp⟩) (es.map enc1).length cap:=by rw[cP,hesl]
 simp only[Sl.av];rw[hv];refine .sl (es.map enc1) false ab ao cap sz (λk=>(w.cell? ⟨ab,ao+k,none⟩).getD undef) (by rw[cP,hesl];exact hlc) (by intro h;cases h) ?_ ?_ ?_ ?_ asp ?_;intro h0;refine⟨λh=>h,?_⟩;obtain⟨e',r,hr⟩:=List.exists_cons_of_ne_nil h0;obtain⟨x,hx,_⟩:=hmap 0 e' (by rw[hr];rfl);obtain⟨cs',c1,_,c3⟩:=hcell 0 x hx;have h3:=c3 0 hsz;rw[cZ (by omega)]at h3;by_cases hlt:ab<w.heap.size;exact hlt;simp[World.cell?,Array.getElem?_eq_none (Nat.le_of_not_lt hlt)]at h3;intro i e' h;obtain⟨x,_,rfl⟩:=hmap i e' h;rw[hcells,hlen];intro k hk;rw[cP]at hk;have hi:k / sz<es.length:=Nat.div_lt_of_lt_mul (by rw[Nat.mul_comm];exact hk);obtain⟨cs',c1,_,c3⟩:=hcell (k / sz) _ (cZ hi);have hm:k % sz<sz:=Nat.mod_lt _ hsz;have h3:=c3 (k % sz) hm;have e1:k / sz*sz+k % sz=k:=by rw[Nat.mul_comm];exact Nat.div_add_mod k sz
 rw[e1,cZ (by omega)]at h3;rw[h3];rfl;intro i e' j y h hy;obtain⟨x,hx,rfl⟩:=hmap i e' h;obtain⟨cs',c1,c2,c3⟩:=hcell i x hx;rw[hcells]at hy;have hj:j<sz:=by have:=(cF.1 hy).1;rw[hlen]at this;exact this
 rw[c3 j hj,cZ (by omega)];exact c2.get j y _ hy (cZ (by omega));intro h0;refine hne ?_;intro h;subst h;simp at h0;refine aJ.mk_get (by rw[hesl,cP,hel']) ?_;intro i x m hx hm;obtain⟨_,_,_,hg⟩:=hese i x hx;rw[List.getD_eq_getElem?_getD,hm]at hg;exact hg;have:(elems.map λy=>b y.1)=(elems.map (·.1)).map b:=by simp
 rw[this];omega;intro m hm;obtain⟨y,_,rfl⟩:=List.mem_map.1 hm;exact B.one _
theorem Rd.mono{N M:Nat}{t:TypeId}{α : Type}{cells : α -> List AV}{good : α -> Nat->Prop}(h:Rd enc P w num ρ b N t cells good)(hM:M<=N):Rd enc P w num ρ b M t cells good:=
 λfuel hf=>h fuel (by omega)
theorem eQ{t:TypeId}{fs:Array Field}{L:List (TypeId×Nat)}{fuel:Nat}{cs:List Value}{x:DataW H×List MemPlace}(ht:P.underlying t=some (.struct fs))(hL:fs.toList.map (λf=>(f.type,f.offset))=L)
  (h:DataW.trod enc P w 0 (λ_=>true) true fuel t cs=some x) :
  ∃(xs:List (DataW H×List MemPlace))(n:Nat),fuel=n+1/\x.1 = .agg (xs.map (·.1))/\cs.length=P.cellsOf t/\xs.length=L.length /\
   ∀(i:Nat)(p:TypeId×Nat),L[i]?=some p->DataW.trod enc P w 0 (λ_=>true) true n p.1 ((cs.drop p.2).take (P.cellsOf p.1))=xs[i]?:=by
 obtain⟨xs,n,h0,rfl,h1,h2,h3⟩:=DataW.trod_struct ht h;subst hL;refine⟨xs,n,h0,rfl,h1,by simpa using h2,?_⟩;intro i p hp;rw[List.getElem?_map,lH]at hp;obtain⟨f,hf,rfl⟩:=hp;exact h3 i f (by simpa using hf)
end
end
section
structure Loop where
 v:Str
 lo:Lin
 hi:Sl Lin
 step:Int
def Loop.av(x:Loop):AV:=.agg [.str x.v.bs,.int .i64 x.lo.c,x.lo.ts.av aR.av,x.hi.av Lin.av,.int .i64 x.step]
structure aZ where
 loops:Sl Loop
 value:Int
 at_:Sl Lin
 dyn:Bool
 index:aA
 check:Int
 body:aA
def aZ.cells(x:aZ):List AV:=[x.loops.av Loop.av,.int .i64 x.value,x.at_.av Lin.av,.bool x.dyn]++x.index.cells++[.int .i64 x.check]++x.body.cells
def aZ.av(x:aZ):AV:=.agg x.cells
theorem Loop.avc(x:Loop):Loop.av x = .agg [.str x.v.bs,.int .i64 x.lo.c,.sl x.lo.ts.nl (x.lo.ts.es.map aR.av) x.lo.ts.cl,.sl x.hi.nl (x.hi.es.map Lin.av) x.hi.cl,.int .i64 x.step]:=rfl
theorem Loop.cells_av(x:Loop):(Loop.av x).cells=[.str x.v.bs,.int .i64 x.lo.c,.sl x.lo.ts.nl (x.lo.ts.es.map aR.av) x.lo.ts.cl,.sl x.hi.nl (x.hi.es.map Lin.av) x.hi.cl,.int .i64 x.step]:=by rw[Loop.avc];rfl
theorem Loop.isAgg_av(x:Loop):(Loop.av x).isAgg=true:=by rw[Loop.avc];rfl
theorem Loop.fits_av(x:Loop):(Loop.av x).fits 5 true=true:=by rw[Loop.avc];rfl
theorem Loop.tree_av(x:Loop):(Loop.av x).tree=true:=by rw[Loop.avc];simp[go_sem]
theorem Loop.treeL_av(l:List Loop):Tev.treeL (l.map Loop.av)=true:=bQ Loop.tree_av l
theorem Loop.fld_av(off sz:Nat)(ag:Bool)(x:Loop):fU off sz ag [Loop.av x]=fU off sz ag [.agg [.str x.v.bs,.int .i64 x.lo.c,.sl x.lo.ts.nl (x.lo.ts.es.map aR.av) x.lo.ts.cl,.sl x.hi.nl (x.hi.es.map Lin.av) x.hi.cl,.int .i64 x.step]]:=by rw[Loop.avc]
theorem Loop.fad_av(off sz:Nat)(ag:Bool)(x:Loop):fV off sz ag [.fp (Loop.av x)]=fV off sz ag [.fp (.agg [.str x.v.bs,.int .i64 x.lo.c,.sl x.lo.ts.nl (x.lo.ts.es.map aR.av) x.lo.ts.cl,.sl x.hi.nl (x.hi.es.map Lin.av) x.hi.cl,.int .i64 x.step])]:=by rw[Loop.avc]
theorem Loop.box_av(h:Hp)(k:Nat)(x:Loop):fW h k [Loop.av x]=fW h k [.agg [.str x.v.bs,.int .i64 x.lo.c,.sl x.lo.ts.nl (x.lo.ts.es.map aR.av) x.lo.ts.cl,.sl x.hi.nl (x.hi.es.map Lin.av) x.hi.cl,.int .i64 x.step]]:=by rw[Loop.avc]
attribute [go_sem high] Loop.cells_av Loop.isAgg_av Loop.fits_av Loop.tree_av Loop.treeL_av
attribute [go_sem ↓ high] Loop.fld_av Loop.fad_av Loop.box_av
theorem aZ.avc(x:aZ):aZ.av x = .agg [.sl x.loops.nl (x.loops.es.map Loop.av) x.loops.cl,.int .i64 x.value,.sl x.at_.nl (x.at_.es.map Lin.av) x.at_.cl,.bool x.dyn,.str x.index.op.bs,.int .i64 x.index.num,.int .i64 x.index.value,.str x.index.name.bs,.sl x.index.at_.nl (x.index.at_.es.map Lin.av) x.index.at_.cl,.bool x.index.dyn,.int .i64 x.index.check,.sl x.index.fn.nl (x.index.fn.es.map aE.av) x.index.fn.cl,.sl x.index.knl (x.index.kids.map aA.av) x.index.kcl,.int .i64 x.check,.str x.body.op.bs,.int .i64 x.body.num,.int .i64 x.body.value,.str x.body.name.bs,.sl x.body.at_.nl (x.body.at_.es.map Lin.av) x.body.at_.cl,.bool x.body.dyn,.int .i64 x.body.check,.sl x.body.fn.nl (x.body.fn.es.map aE.av) x.body.fn.cl,.sl x.body.knl (x.body.kids.map aA.av) x.body.kcl]:=rfl
theorem aZ.cells_av(x:aZ):(aZ.av x).cells=[.sl x.loops.nl (x.loops.es.map Loop.av) x.loops.cl,.int .i64 x.value,.sl x.at_.nl (x.at_.es.map Lin.av) x.at_.cl,.bool x.dyn,.str x.index.op.bs,.int .i64 x.index.num,.int .i64 x.index.value,.str x.index.name.bs,.sl x.index.at_.nl (x.index.at_.es.map Lin.av) x.index.at_.cl,.bool x.index.dyn,.int .i64 x.index.check,.sl x.index.fn.nl (x.index.fn.es.map aE.av) x.index.fn.cl,.sl x.index.knl (x.index.kids.map aA.av) x.index.kcl,.int .i64 x.check,.str x.body.op.bs,.int .i64 x.body.num,.int .i64 x.body.value,.str x.body.name.bs,.sl x.body.at_.nl (x.body.at_.es.map Lin.av) x.body.at_.cl,.bool x.body.dyn,.int .i64 x.body.check,.sl x.body.fn.nl (x.body.fn.es.map aE.av) x.body.fn.cl,.sl x.body.knl (x.body.kids.map aA.av) x.body.kcl]:=by rw[aZ.avc];rfl
theorem aZ.isAgg_av(x:aZ):(aZ.av x).isAgg=true:=by rw[aZ.avc];rfl
theorem aZ.fits_av(x:aZ):(aZ.av x).fits 23 true=true:=by rw[aZ.avc];rfl
theorem aZ.tree_av(x:aZ):(aZ.av x).tree=true:=by rw[aZ.avc];simp[go_sem]
theorem aZ.treeL_av(l:List aZ):Tev.treeL (l.map aZ.av)=true:=bQ aZ.tree_av l
theorem aZ.fld_av(off sz:Nat)(ag:Bool)(x:aZ):fU off sz ag [aZ.av x]=fU off sz ag [.agg [.sl x.loops.nl (x.loops.es.map Loop.av) x.loops.cl,.int .i64 x.value,.sl x.at_.nl (x.at_.es.map Lin.av) x.at_.cl,.bool x.dyn,.str x.index.op.bs,.int .i64 x.index.num,.int .i64 x.index.value,.str x.index.name.bs,.sl x.index.at_.nl (x.index.at_.es.map Lin.av) x.index.at_.cl,.bool x.index.dyn,.int .i64 x.index.check,.sl x.index.fn.nl (x.index.fn.es.map aE.av) x.index.fn.cl,.sl x.index.knl (x.index.kids.map aA.av) x.index.kcl,.int .i64 x.check,.str x.body.op.bs,.int .i64 x.body.num,.int .i64 x.body.value,.str x.body.name.bs,.sl x.body.at_.nl (x.body.at_.es.map Lin.av) x.body.at_.cl,.bool x.body.dyn,.int .i64 x.body.check,.sl x.body.fn.nl (x.body.fn.es.map aE.av) x.body.fn.cl,.sl x.body.knl (x.body.kids.map aA.av) x.body.kcl]]:=by rw[aZ.avc]
theorem aZ.fad_av(off sz:Nat)(ag:Bool)(x:aZ):fV off sz ag [.fp (aZ.av x)]=fV off sz ag [.fp (.agg [.sl x.loops.nl (x.loops.es.map Loop.av) x.loops.cl,.int .i64 x.value,.sl x.at_.nl (x.at_.es.map Lin.av) x.at_.cl,.bool x.dyn,.str x.index.op.bs,.int .i64 x.index.num,.int .i64 x.index.value,.str x.index.name.bs,.sl x.index.at_.nl (x.index.at_.es.map Lin.av) x.index.at_.cl,.bool x.index.dyn,.int .i64 x.index.check,.sl x.index.fn.nl (x.index.fn.es.map aE.av) x.index.fn.cl,.sl x.index.knl (x.index.kids.map aA.av) x.index.kcl,.int .i64 x.check,.str x.body.op.bs,.int .i64 x.body.num,.int .i64 x.body.value,.str x.body.name.bs,.sl x.body.at_.nl (x.body.at_.es.map Lin.av) x.body.at_.cl,.bool x.body.dyn,.int .i64 x.body.check,.sl x.body.fn.nl (x.body.fn.es.map aE.av) x.body.fn.cl,.sl x.body.knl (x.body.kids.map aA.av) x.body.kcl])]:=by rw[aZ.avc]
theorem aZ.box_av(h:Hp)(k:Nat)(x:aZ):fW h k [aZ.av x]=fW h k [.agg [.sl x.loops.nl (x.loops.es.map Loop.av) x.loops.cl,.int .i64 x.value,.sl x.at_.nl (x.at_.es.map Lin.av) x.at_.cl,.bool x.dyn,.str x.index.op.bs,.int .i64 x.index.num,.int .i64 x.index.value,.str x.index.name.bs,.sl x.index.at_.nl (x.index.at_.es.map Lin.av) x.index.at_.cl,.bool x.index.dyn,.int .i64 x.index.check,.sl x.index.fn.nl (x.index.fn.es.map aE.av) x.index.fn.cl,.sl x.index.knl (x.index.kids.map aA.av) x.index.kcl,.int .i64 x.check,.str x.body.op.bs,.int .i64 x.body.num,.int .i64 x.body.value,.str x.body.name.bs,.sl x.body.at_.nl (x.body.at_.es.map Lin.av) x.body.at_.cl,.bool x.body.dyn,.int .i64 x.body.check,.sl x.body.fn.nl (x.body.fn.es.map aE.av) x.body.fn.cl,.sl x.body.knl (x.body.kids.map aA.av) x.body.kcl]]:=by rw[aZ.avc]
attribute [go_sem high] aZ.cells_av aZ.isAgg_av aZ.fits_av aZ.tree_av aZ.treeL_av
attribute [go_sem ↓ high] aZ.fld_av aZ.fad_av aZ.box_av
end
section
structure TyP(P:Program)(tI tS tB tCoef tLin tStep tPull sCoef sLin sStep sPull dY sStr:TypeId):Prop where
 uI:P.underlying tI=some (.int .i64)
 uS:P.underlying tS=some .string
 uB:P.underlying tB=some .bool
 u_tCoef:∃fs,P.underlying tCoef=some (.struct fs)/\fs.toList.map (λf=>(f.type,f.offset))=[(tS,0),(tI,1)]
 u_tLin:∃fs,P.underlying tLin=some (.struct fs)/\fs.toList.map (λf=>(f.type,f.offset))=[(tI,0),(sCoef,1)]
 u_tStep:∃fs,P.underlying tStep=some (.struct fs)/\fs.toList.map (λf=>(f.type,f.offset))=[(tS,0),(tI,1),(dY,2)]
 u_tPull:∃fs,P.underlying tPull=some (.struct fs)/\fs.toList.map (λf=>(f.type,f.offset))=[(tS,0),(tI,1),(tI,2),(tS,3),(sLin,4),(tB,5),(tI,6),(sStep,7),(sPull,8)]
 u_sCoef:P.underlying sCoef=some (.slice tCoef)
 u_sLin:P.underlying sLin=some (.slice tLin)
 u_sStep:P.underlying sStep=some (.slice tStep)
 u_sPull:P.underlying sPull=some (.slice tPull)
 u_sInt:P.underlying dY=some (.slice tI)
 u_sStr:P.underlying sStr=some (.slice tS)
 c_tI:P.cellsOf tI=1
 c_tS:P.cellsOf tS=1
 c_tB:P.cellsOf tB=1
 c_tCoef:P.cellsOf tCoef=2
 c_tLin:P.cellsOf tLin=2
 c_tStep:P.cellsOf tStep=3
 c_tPull:P.cellsOf tPull=9
 c_sCoef:P.cellsOf sCoef=1
 c_sLin:P.cellsOf sLin=1
 c_sStep:P.cellsOf sStep=1
 c_sPull:P.cellsOf sPull=1
 c_sInt:P.cellsOf dY=1
 c_sStr:P.cellsOf sStr=1
structure TyN(P:Program)(tI tS tB tLin tPull sLin tLoop tAcc tNest sLoop:TypeId):Prop where
 u_tLoop:∃fs,P.underlying tLoop=some (.struct fs)/\fs.toList.map (λf=>(f.type,f.offset))=[(tS,0),(tLin,1),(sLin,3),(tI,4)]
 u_tAcc:∃fs,P.underlying tAcc=some (.struct fs)/\fs.toList.map (λf=>(f.type,f.offset))=[(tI,0),(sLin,1),(tB,2)]
 u_tNest:∃fs,P.underlying tNest=some (.struct fs)/\fs.toList.map (λf=>(f.type,f.offset))=[(sLoop,0),(tAcc,1),(tPull,4),(tI,13),(tPull,14)]
 u_sLoop:P.underlying sLoop=some (.slice tLoop)
 c_tLoop:P.cellsOf tLoop=5
 c_tAcc:P.cellsOf tAcc=3
 c_tNest:P.cellsOf tNest=23
 c_sLoop:P.cellsOf sLoop=1
structure Acc where
 value:Int
 at_:Sl Lin
 dyn:Bool
section
variable{H:Type}{enc:TypeId×Value->H}{P:Program}{w:World}{num:Nm}{ρ : Rho}{b:DataW H->Nat}{bs:List (DataW H)->Nat}{tI tS tB tCoef tLin tStep tPull sCoef sLin sStep sPull dY sStr:TypeId}
variable(B:xJ b bs)(T:TyP P tI tS tB tCoef tLin tStep tPull sCoef sLin sStep sPull dY sStr)
include B T
theorem TN(N:Nat):Rd enc P w num ρ b N tCoef (λx:aR=>[Str.av x.v]++([aV x.c]++[])) (λ_ _=>True):=by
 intro fuel hN cs d ps h hb;obtain⟨fs,hu,hL⟩:=T.u_tCoef;obtain⟨xs,n,hn,hx,hcl,hl,hf⟩:=eQ hu hL h;rw[T.c_tCoef]at hcl;obtain⟨y0,y1,rfl⟩:∃y0 y1,xs=[y0,y1]:=by
  match xs,hl with
  |[y0,y1],_=>exact⟨y0,y1,rfl⟩
 have hx':d = .agg [y0.1,y1.1]:=hx;subst hx';rw[B.agg]at hb ⊢;simp only[B.cons,B.nil]at hb ⊢;have f0:_=some y0:=hf 0 (tS,0) rfl;have f1:_=some y1:=hf 1 (tI,1) rfl;simp only[T.c_tI,T.c_tS]at f0 f1;obtain⟨a0,p0,g0⟩:=(Rd.str (enc:=enc) (w:=w) (num:=num) (ρ := ρ) (N:=n) B T.uS) n (Nat.le_refl _) _ y0.1 y0.2 f0 (by omega);obtain⟨a1,p1,g1⟩:=(Rd.int (enc:=enc) (w:=w) (num:=num) (ρ := ρ) (b:=b) (N:=n) T.uI) n (Nat.le_refl _) _ y1.1 y1.2 f1 (by omega);refine⟨⟨a0,a1⟩,?_,trivial⟩;have q:=(p0.piece (p1.piece (aJ.done (by omega))))
 rw[List.drop_zero]at q;exact q
theorem TR(N:Nat):Rd enc P w num ρ b N sCoef (λs:Sl aR=>[s.av aR.av]) (λs n=>(s.nl=true->s.es=[])/\∃ms:List Nat,aJ (λ_ _=>True) s.es ms/\ms.sum+1<=n/\∀m∈ms,1<=m):=
 (Rd.slice B (N:=N) (sz:=2) aR.av T.u_sCoef T.c_tCoef (by decide) (λx=>rfl) (λx=>rfl) (TN B T N)).mono (Nat.le_succ N)
theorem OQ(N:Nat):Rd enc P w num ρ b N tLin (λx:Lin=>[aV x.c]++([x.ts.av aR.av]++[])) (λ_ _=>True):=by
 intro fuel hN cs d ps h hb;obtain⟨fs,hu,hL⟩:=T.u_tLin;obtain⟨xs,n,hn,hx,hcl,hl,hf⟩:=eQ hu hL h;rw[T.c_tLin]at hcl;obtain⟨y0,y1,rfl⟩:∃y0 y1,xs=[y0,y1]:=by
  match xs,hl with
  |[y0,y1],_=>exact⟨y0,y1,rfl⟩
 have hx':d = .agg [y0.1,y1.1]:=hx;subst hx';rw[B.agg]at hb ⊢;simp only[B.cons,B.nil]at hb ⊢;have f0:_=some y0:=hf 0 (tI,0) rfl;have f1:_=some y1:=hf 1 (sCoef,1) rfl;simp only[T.c_sCoef,T.c_tI]at f0 f1;obtain⟨a0,p0,g0⟩:=(Rd.int (enc:=enc) (w:=w) (num:=num) (ρ := ρ) (b:=b) (N:=n) T.uI) n (Nat.le_refl _) _ y0.1 y0.2 f0 (by omega);obtain⟨a1,p1,g1⟩:=(TR (enc:=enc) (w:=w) (num:=num) (ρ := ρ) B T n) n (Nat.le_refl _) _ y1.1 y1.2 f1 (by omega);refine⟨⟨a0,a1⟩,?_,trivial⟩;have q:=(p0.piece (p1.piece (aJ.done (by omega))))
 rw[List.drop_zero]at q;exact q
theorem FA(N:Nat):Rd enc P w num ρ b N sLin (λs:Sl Lin=>[s.av Lin.av]) (λs n=>(s.nl=true->s.es=[])/\∃ms:List Nat,aJ (λ_ _=>True) s.es ms/\ms.sum+1<=n/\∀m∈ms,1<=m):=
 (Rd.slice B (N:=N) (sz:=2) Lin.av T.u_sLin T.c_tLin (by decide) (λx=>rfl) (λx=>rfl) (OQ B T N)).mono (Nat.le_succ N)
theorem FB(N:Nat):Rd enc P w num ρ b N dY (λs:Sl Int=>[s.av aV]) (λs n=>(s.nl=true->s.es=[])/\∃ms:List Nat,aJ (λ_ _=>True) s.es ms/\ms.sum+1<=n/\∀m∈ms,1<=m):=
 (Rd.slice B (N:=N) (sz:=1) aV T.u_sInt T.c_tI (by decide) (λx=>rfl) (λx=>rfl) (Rd.int T.uI)).mono (Nat.le_succ N)
theorem TM(N:Nat):Rd enc P w num ρ b N tStep (λx:aE=>[Str.av x.op]++([aV x.num]++([x.args.av aV]++[]))) (λ_ _=>True):=by
 intro fuel hN cs d ps h hb;obtain⟨fs,hu,hL⟩:=T.u_tStep;obtain⟨xs,n,hn,hx,hcl,hl,hf⟩:=eQ hu hL h;rw[T.c_tStep]at hcl;obtain⟨y0,y1,y2,rfl⟩:∃y0 y1 y2,xs=[y0,y1,y2]:=by
  match xs,hl with
  |[y0,y1,y2],_=>exact⟨y0,y1,y2,rfl⟩
 have hx':d = .agg [y0.1,y1.1,y2.1]:=hx;subst hx';rw[B.agg]at hb ⊢;simp only[B.cons,B.nil]at hb ⊢;have f0:_=some y0:=hf 0 (tS,0) rfl;have f1:_=some y1:=hf 1 (tI,1) rfl;have f2:_=some y2:=hf 2 (dY,2) rfl;simp only[T.c_sInt,T.c_tI,T.c_tS]at f0 f1 f2;obtain⟨a0,p0,g0⟩:=(Rd.str (enc:=enc) (w:=w) (num:=num) (ρ := ρ) (N:=n) B T.uS) n (Nat.le_refl _) _ y0.1 y0.2 f0 (by omega);obtain⟨a1,p1,g1⟩:=(Rd.int (enc:=enc) (w:=w) (num:=num) (ρ := ρ) (b:=b) (N:=n) T.uI) n (Nat.le_refl _) _ y1.1 y1.2 f1 (by omega);obtain⟨a2,p2,g2⟩:=(FB (enc:=enc) (w:=w) (num:=num) (ρ := ρ) B T n) n (Nat.le_refl _) _ y2.1 y2.2 f2 (by omega);refine⟨⟨a0,a1,a2⟩,?_,trivial⟩;have q:=(p0.piece (p1.piece (p2.piece (aJ.done (by omega)))))
 rw[List.drop_zero]at q;exact q
theorem TQ(N:Nat):Rd enc P w num ρ b N sStep (λs:Sl aE=>[s.av aE.av]) (λs n=>(s.nl=true->s.es=[])/\∃ms:List Nat,aJ (λ_ _=>True) s.es ms/\ms.sum+1<=n/\∀m∈ms,1<=m):=
 (Rd.slice B (N:=N) (sz:=3) aE.av T.u_sStep T.c_tStep (by decide) (λx=>rfl) (λx=>rfl) (TM B T N)).mono (Nat.le_succ N)
omit B T in
theorem S7:∀{l:List aA}{ms:List Nat},aJ (fun(p:aA) n=>p.ok/\p.sz<=n) l ms->(∀p∈l,p.ok)/\aA.szL l<=ms.sum
 |_,_,.nil=>⟨by simp,by simp[aA.szL]⟩
 |_,_,.cons h r=>by obtain⟨h1,h2⟩:=S7 r;refine⟨?_,by simp[aA.szL];omega⟩;intro p hp;rcases List.mem_cons.1 hp with rfl|hp;exact h.1;exact h1 p hp
theorem CH(N:Nat)(hs:∀n,n+1<=N->Rd enc P w num ρ b n sPull (λs:Sl aA=>[s.av aA.av]) (λs n=>(s.nl=true->s.es=[])/\∃ms:List Nat,aJ (λ(p:aA) n=>p.ok/\p.sz<=n) s.es ms/\ms.sum+1<=n/\∀m∈ms,1<=m)):Rd enc P w num ρ b N tPull (λx:aA=>[Str.av x.op]++([aV x.num]++([aV x.value]++([Str.av x.name]++([x.at_.av Lin.av]++([.bool x.dyn]++([aV x.check]++([x.fn.av aE.av]++([x.kav]++[]))))))))) (λp n=>p.ok/\p.sz<=n):=by
 intro fuel hN cs d ps h hb;obtain⟨fs,hu,hL⟩:=T.u_tPull;obtain⟨xs,n,hn,hx,hcl,hl,hf⟩:=eQ hu hL h;rw[T.c_tPull]at hcl;obtain⟨y0,y1,y2,y3,y4,y5,y6,y7,y8,rfl⟩:∃y0 y1 y2 y3 y4 y5 y6 y7 y8,xs=[y0,y1,y2,y3,y4,y5,y6,y7,y8]:=by
  match xs,hl with
  |[y0,y1,y2,y3,y4,y5,y6,y7,y8],_=>exact⟨y0,y1,y2,y3,y4,y5,y6,y7,y8,rfl⟩
 have hx':d = .agg [y0.1,y1.1,y2.1,y3.1,y4.1,y5.1,y6.1,y7.1,y8.1]:=hx;subst hx';rw[B.agg]at hb ⊢;simp only[B.cons,B.nil]at hb ⊢;have f0:_=some y0:=hf 0 (tS,0) rfl;have f1:_=some y1:=hf 1 (tI,1) rfl;have f2:_=some y2:=hf 2 (tI,2) rfl;have f3:_=some y3:=hf 3 (tS,3) rfl;have f4:_=some y4:=hf 4 (sLin,4) rfl;have f5:_=some y5:=hf 5 (tB,5) rfl;have f6:_=some y6:=hf 6 (tI,6) rfl;have f7:_=some y7:=hf 7 (sStep,7) rfl;have f8:_=some y8:=hf 8 (sPull,8) rfl;simp only[T.c_sLin,T.c_sPull,T.c_sStep,T.c_tB,T.c_tI,T.c_tS]at f0 f1 f2 f3 f4 f5 f6 f7 f8;obtain⟨a0,p0,g0⟩:=(Rd.str (enc:=enc) (w:=w) (num:=num) (ρ := ρ) (N:=n) B T.uS) n (Nat.le_refl _) _ y0.1 y0.2 f0 (by omega);obtain⟨a1,p1,g1⟩:=(Rd.int (enc:=enc) (w:=w) (num:=num) (ρ := ρ) (b:=b) (N:=n) T.uI) n (Nat.le_refl _) _ y1.1 y1.2 f1 (by omega);obtain⟨a2,p2,g2⟩:=(Rd.int (enc:=enc) (w:=w) (num:=num) (ρ := ρ) (b:=b) (N:=n) T.uI) n (Nat.le_refl _) _ y2.1 y2.2 f2 (by omega);obtain⟨a3,p3,g3⟩:=(Rd.str (enc:=enc) (w:=w) (num:=num) (ρ := ρ) (N:=n) B T.uS) n (Nat.le_refl _) _ y3.1 y3.2 f3 (by omega);obtain⟨a4,p4,g4⟩:=(FA (enc:=enc) (w:=w) (num:=num) (ρ := ρ) B T n) n (Nat.le_refl _) _ y4.1 y4.2 f4 (by omega);obtain⟨a5,p5,g5⟩:=(Rd.bool (enc:=enc) (w:=w) (num:=num) (ρ := ρ) (b:=b) (N:=n) T.uB) n (Nat.le_refl _) _ y5.1 y5.2 f5 (by omega);obtain⟨a6,p6,g6⟩:=(Rd.int (enc:=enc) (w:=w) (num:=num) (ρ := ρ) (b:=b) (N:=n) T.uI) n (Nat.le_refl _) _ y6.1 y6.2 f6 (by omega);obtain⟨a7,p7,g7⟩:=(TQ (enc:=enc) (w:=w) (num:=num) (ρ := ρ) B T n) n (Nat.le_refl _) _ y7.1 y7.2 f7 (by omega);obtain⟨a8,p8,g8⟩:=(hs n (by omega)) n (Nat.le_refl _) _ y8.1 y8.2 f8 (by omega);refine⟨.mk a0 a1 a2 a3 a4 a5 a6 a7 a8.nl a8.es a8.cl,?_,?_⟩
 rotate_left
 obtain⟨_,ms,m1,m2,_⟩:=g8;obtain⟨k1,k2⟩:=S7 m1;refine⟨(aA.ok_iff _).2 ⟨a8.ok,k1⟩,?_⟩;rw[aA.sz_eq];show 1+aA.szL a8.es<=_;omega;have q:=(p0.piece (p1.piece (p2.piece (p3.piece (p4.piece (p5.piece (p6.piece (p7.piece (p8.piece (aJ.done (by omega)))))))))))
 rw[List.drop_zero]at q;exact q
theorem Q3(N:Nat)(h:Rd enc P w num ρ b N tPull (λx:aA=>[Str.av x.op]++([aV x.num]++([aV x.value]++([Str.av x.name]++([x.at_.av Lin.av]++([.bool x.dyn]++([aV x.check]++([x.fn.av aE.av]++([x.kav]++[]))))))))) (λp n=>p.ok/\p.sz<=n)):Rd enc P w num ρ b (N+1) sPull (λs:Sl aA=>[s.av aA.av]) (λs n=>(s.nl=true->s.es=[])/\∃ms:List Nat,aJ (fun(p:aA) n=>p.ok/\p.sz<=n) s.es ms/\ms.sum+1<=n/\∀m∈ms,1<=m):=
 Rd.slice B (N:=N) (sz:=9) aA.av T.u_sPull T.c_tPull (by decide) (λx=>by rw[aA.av_eq];rfl) (λx=>rfl) h
theorem zG:∀N:Nat,Rd enc P w num ρ b N tPull (λx:aA=>[Str.av x.op]++([aV x.num]++([aV x.value]++([Str.av x.name]++([x.at_.av Lin.av]++([.bool x.dyn]++([aV x.check]++([x.fn.av aE.av]++([x.kav]++[]))))))))) (λp n=>p.ok/\p.sz<=n)
 |0=>CH B T 0 (λn hn=>by omega)
 |N+1=>CH B T (N+1) (λn hn=>(Q3 B T N (zG N)).mono (by omega))
end
section
variable{H:Type}{enc:TypeId×Value->H}{P:Program}{w:World}{num:Nm}{ρ : Rho}{b:DataW H->Nat}{bs:List (DataW H)->Nat}{tI tS tB tCoef tLin tStep tPull sCoef sLin sStep sPull dY sStr tLoop tAcc tNest sLoop:TypeId}
variable(B:xJ b bs)(T:TyP P tI tS tB tCoef tLin tStep tPull sCoef sLin sStep sPull dY sStr)(N:TyN P tI tS tB tLin tPull sLin tLoop tAcc tNest sLoop)
include B T N
theorem Q2(M:Nat):Rd enc P w num ρ b M tLoop (λx:Loop=>[Str.av x.v]++(([aV x.lo.c]++([x.lo.ts.av aR.av]++[]))++([x.hi.av Lin.av]++([aV x.step]++[])))) (λx _=>x.hi.nl=true->x.hi.es=[]):=by
 intro fuel hN cs d ps h hb;obtain⟨fs,hu,hL⟩:=N.u_tLoop;obtain⟨xs,n,hn,hx,hcl,hl,hf⟩:=eQ hu hL h;rw[N.c_tLoop]at hcl;obtain⟨y0,y1,y2,y3,rfl⟩:∃y0 y1 y2 y3,xs=[y0,y1,y2,y3]:=by
  match xs,hl with
  |[y0,y1,y2,y3],_=>exact⟨y0,y1,y2,y3,rfl⟩
 have hx':d = .agg [y0.1,y1.1,y2.1,y3.1]:=hx;subst hx';rw[B.agg]at hb ⊢;simp only[B.cons,B.nil]at hb ⊢;have f0:_=some y0:=hf 0 (tS,0) rfl;have f1:_=some y1:=hf 1 (tLin,1) rfl;have f2:_=some y2:=hf 2 (sLin,3) rfl;have f3:_=some y3:=hf 3 (tI,4) rfl;simp only[T.c_sLin,T.c_tI,T.c_tLin,T.c_tS]at f0 f1 f2 f3;obtain⟨a0,p0,g0⟩:=(Rd.str (enc:=enc) (w:=w) (num:=num) (ρ := ρ) (N:=n) B T.uS) n (Nat.le_refl _) _ y0.1 y0.2 f0 (by omega);obtain⟨a1,p1,g1⟩:=(OQ (enc:=enc) (w:=w) (num:=num) (ρ := ρ) B T n) n (Nat.le_refl _) _ y1.1 y1.2 f1 (by omega);obtain⟨a2,p2,g2⟩:=(FA (enc:=enc) (w:=w) (num:=num) (ρ := ρ) B T n) n (Nat.le_refl _) _ y2.1 y2.2 f2 (by omega);obtain⟨a3,p3,g3⟩:=(Rd.int (enc:=enc) (w:=w) (num:=num) (ρ := ρ) (b:=b) (N:=n) T.uI) n (Nat.le_refl _) _ y3.1 y3.2 f3 (by omega);refine⟨⟨a0,a1,a2,a3⟩,?_,g2.1⟩;have q:=(p0.piece (p1.piece (p2.piece (p3.piece (aJ.done (by omega))))))
 rw[List.drop_zero]at q;exact q
theorem Q4(M:Nat):Rd enc P w num ρ b M sLoop (λs:Sl Loop=>[s.av Loop.av]) (λs n=>(s.nl=true->s.es=[])/\∃ms:List Nat,aJ (fun(x:Loop)(_:Nat)=>x.hi.nl=true->x.hi.es=[]) s.es ms/\ms.sum+1<=n/\∀m∈ms,1<=m):=
 (Rd.slice B (N:=M) (sz:=5) Loop.av N.u_sLoop N.c_tLoop (by decide) (λx=>rfl) (λx=>rfl) (Q2 B T N M)).mono (Nat.le_succ M)
theorem YP(M:Nat):Rd enc P w num ρ b M tAcc (λx:Acc=>[aV x.value]++([x.at_.av Lin.av]++([.bool x.dyn]++[]))) (λ_ _=>True):=by
 intro fuel hN cs d ps h hb;obtain⟨fs,hu,hL⟩:=N.u_tAcc;obtain⟨xs,n,hn,hx,hcl,hl,hf⟩:=eQ hu hL h;rw[N.c_tAcc]at hcl;obtain⟨y0,y1,y2,rfl⟩:∃y0 y1 y2,xs=[y0,y1,y2]:=by
  match xs,hl with
  |[y0,y1,y2],_=>exact⟨y0,y1,y2,rfl⟩
 have hx':d = .agg [y0.1,y1.1,y2.1]:=hx;subst hx';rw[B.agg]at hb ⊢;simp only[B.cons,B.nil]at hb ⊢;have f0:_=some y0:=hf 0 (tI,0) rfl;have f1:_=some y1:=hf 1 (sLin,1) rfl;have f2:_=some y2:=hf 2 (tB,2) rfl;simp only[T.c_sLin,T.c_tB,T.c_tI]at f0 f1 f2;obtain⟨a0,p0,g0⟩:=(Rd.int (enc:=enc) (w:=w) (num:=num) (ρ := ρ) (b:=b) (N:=n) T.uI) n (Nat.le_refl _) _ y0.1 y0.2 f0 (by omega);obtain⟨a1,p1,g1⟩:=(FA (enc:=enc) (w:=w) (num:=num) (ρ := ρ) B T n) n (Nat.le_refl _) _ y1.1 y1.2 f1 (by omega);obtain⟨a2,p2,g2⟩:=(Rd.bool (enc:=enc) (w:=w) (num:=num) (ρ := ρ) (b:=b) (N:=n) T.uB) n (Nat.le_refl _) _ y2.1 y2.2 f2 (by omega);refine⟨⟨a0,a1,a2⟩,?_,trivial⟩;have q:=(p0.piece (p1.piece (p2.piece (aJ.done (by omega)))))
 rw[List.drop_zero]at q;exact q
theorem Q1(M:Nat):Rd enc P w num ρ b M tNest (λx:aZ=>[x.loops.av Loop.av]++(([aV x.value]++([x.at_.av Lin.av]++([.bool x.dyn]++[])))++(([Str.av x.index.op]++([aV x.index.num]++([aV x.index.value]++([Str.av x.index.name]++([x.index.at_.av Lin.av]++([.bool x.index.dyn]++([aV x.index.check]++([x.index.fn.av aE.av]++([x.index.kav]++[])))))))))++([aV x.check]++(([Str.av x.body.op]++([aV x.body.num]++([aV x.body.value]++([Str.av x.body.name]++([x.body.at_.av Lin.av]++([.bool x.body.dyn]++([aV x.body.check]++([x.body.fn.av aE.av]++([x.body.kav]++[])))))))))++[]))))) (λx n=>x.body.ok/\x.index.ok/\x.loops.es.length+x.body.sz+x.index.sz<=n/\∀y∈x.loops.es,y.hi.nl=true->y.hi.es=[]):=by
 intro fuel hN cs d ps h hb;obtain⟨fs,hu,hL⟩:=N.u_tNest;obtain⟨xs,n,hn,hx,hcl,hl,hf⟩:=eQ hu hL h;rw[N.c_tNest]at hcl;obtain⟨y0,y1,y2,y3,y4,rfl⟩:∃y0 y1 y2 y3 y4,xs=[y0,y1,y2,y3,y4]:=by
  match xs,hl with
  |[y0,y1,y2,y3,y4],_=>exact⟨y0,y1,y2,y3,y4,rfl⟩
 have hx':d = .agg [y0.1,y1.1,y2.1,y3.1,y4.1]:=hx;subst hx';rw[B.agg]at hb ⊢;simp only[B.cons,B.nil]at hb ⊢;have f0:_=some y0:=hf 0 (sLoop,0) rfl;have f1:_=some y1:=hf 1 (tAcc,1) rfl;have f2:_=some y2:=hf 2 (tPull,4) rfl;have f3:_=some y3:=hf 3 (tI,13) rfl;have f4:_=some y4:=hf 4 (tPull,14) rfl;simp only[N.c_sLoop,N.c_tAcc,T.c_tI,T.c_tPull]at f0 f1 f2 f3 f4;obtain⟨a0,p0,g0⟩:=(Q4 (enc:=enc) (w:=w) (num:=num) (ρ := ρ) B T N n) n (Nat.le_refl _) _ y0.1 y0.2 f0 (by omega);obtain⟨a1,p1,g1⟩:=(YP (enc:=enc) (w:=w) (num:=num) (ρ := ρ) B T N n) n (Nat.le_refl _) _ y1.1 y1.2 f1 (by omega);obtain⟨a2,p2,g2⟩:=(zG (enc:=enc) (w:=w) (num:=num) (ρ := ρ) B T n) n (Nat.le_refl _) _ y2.1 y2.2 f2 (by omega);obtain⟨a3,p3,g3⟩:=(Rd.int (enc:=enc) (w:=w) (num:=num) (ρ := ρ) (b:=b) (N:=n) T.uI) n (Nat.le_refl _) _ y3.1 y3.2 f3 (by omega);obtain⟨a4,p4,g4⟩:=(zG (enc:=enc) (w:=w) (num:=num) (ρ := ρ) B T n) n (Nat.le_refl _) _ y4.1 y4.2 f4 (by omega);refine⟨⟨a0,a1.value,a1.at_,a1.dyn,a2,a3,a4⟩,?_,?_⟩
 rotate_left
 obtain⟨_,ms,m1,m2,m3⟩:=g0;have hl:a0.es.length<=ms.sum:=by rw[m1.length];exact kX m3
 refine⟨g4.1,g2.1,by have:=g4.2;have:=g2.2;show a0.es.length+a4.sz+a2.sz<=_;omega,?_⟩;intro y hy;obtain⟨q,hq⟩:=List.getElem?_of_mem hy;have hq2:a0.es[q]?=some y:=hq;have hql:q<ms.length:=by have:=(cF.1 hq2).1;have:=m1.length;omega
 exact m1.get q y ms[q] hq2 (cZ hql);have q:=(p0.piece (p1.piece (p2.piece (p3.piece (p4.piece (aJ.done (by omega)))))))
 rw[List.drop_zero]at q;exact q
end
end
section
def sM(x:Int):List Int->List Int
 |[]=>[x]
 |y::r=>if decide (y<x) then y::sM x r else if decide (y=x) then y::r else x::y::r
theorem I5{x a:Int}:∀l:List Int,a∈sM x l↔a=x\/a∈l
 |[]=>by simp[sM]
 |y::r=>by
  simp only[sM];split;simp only[List.mem_cons,I5 r];constructor<;>(intro h;rcases h with h|h|h<;>simp[h])
  split;rename_i h;simp at h;subst h;simp;simp
theorem IP(x:Int):∀l:List Int,(sM x l).length<=l.length+1
 |[]=>by simp[sM]
 |y::r=>by have:=IP x r;simp only[sM];split;simp;omega;split<;>simp
def IsL(l:List Int)(r:AV):Prop:=(∃nl cl,r = .sl nl (l.map aV) cl)\/r = .os (l.map aV) 1 false
theorem IsL.of{l:List Int}{r:AV}(h:pH 1 false (l.map aV) r):IsL l r:=by rcases h with ⟨he,nl,cl,rfl,_⟩|h;exact .inl ⟨nl,cl,by rw[he]⟩;exact .inr h
section
variable{pg:Pg}
attribute [local go_sem] Nat.left_eq_add Nat.add_eq_left
end
end
end Go.Tev
