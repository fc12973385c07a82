import Derived.Test.YtagdhpkdbdilaaaGreatDoorIAU
import Derived.Test.YtagdhpkdbdilaaaGreatDoorIAV
import Derived.Test.YtagdhpkdbdilaaaGreatDoorIAR
import Derived.Test.YtagdhpkdbdilaaaGreatDoorIAT
import Derived.Test.YtagdhpkdbdilaaaGreatDoorIAS
import Derived.ChangeArms
import Derived.Test.YtagdhpkdbdilaaaGreatDoorIAQ
import Derived.Lib.LaidTab
import Derived.Test.YtagdhpkdbdilaaaGreatDoorRows
set_option linter.all false
namespace Go.Tev
section
section
variable{pg:Pg}
end
end
section
section
variable{pg:Pg}
end
end
section
section
variable{pg:Pg}
end
end
section
structure DN{H:Type}(b:DataW H->Nat)(bs:List (DataW H)->Nat):Prop where
 nil:bs []=0
 cons:∀x r,bs (x::r)=b x+bs r
 sl:∀e s,b (.slice e s)=bs e+bs s+1
 agg:∀p,b (.agg p)=bs p+1
 str:∀s,b (.lit (.string s))=s.length+1
 one:∀d,1<=b d
theorem DN.sum{H:Type}{b:DataW H->Nat}{bs:List (DataW H)->Nat}(B:DN b bs):∀l,bs l=(l.map b).sum
 |[]=>by simp[B.nil]
 |x::r=>by rw[B.cons,B.sum r];simp
theorem aFA{l:List Nat}:∀{i:Nat}{m:Nat},l[i]?=some m->m<=l.sum:=by
 induction l with
 |nil=>intro i m h;simp at h
 |cons x r ih=>
  intro i m h;cases i with
  |zero=>simp at h;subst h;simp
  |succ i=>have:=ih (by simpa using h);simp;omega
theorem gV:∀{l:List Nat},(∀m∈l,1<=m)->l.length<=l.sum
 |[],_=>by simp
 |x::r,h=>by have h1:=h x (by simp);have h2:=gV (l:=r) (λm hm=>h m (bR _ hm));simp;omega
theorem pO{α : Type}{Pr:Nat -> α -> Prop}:∀n,(∀i,i<n->∃x,Pr i x)->∃l:List α,l.length=n/\∀i x,l[i]?=some x->Pr i x
 |0,_=>⟨[],rfl,λi x h=>by simp at h⟩
 |n+1,h=>by
  obtain⟨l,h1,h2⟩:=pO n (λi hi=>h i (by omega));obtain⟨x,hx⟩:=h n (by omega);refine⟨l++[x],by simp[h1],λi y hy=>?_⟩;by_cases hi:i<l.length;rw[List.getElem?_append_left hi]at hy;exact h2 i y hy;rw[BL (by omega)]at hy;have:i-l.length=0:=by rcases Nat.eq_zero_or_pos (i-l.length) with q|q;exact q;rw[bO (by simp;omega)]at hy;cases hy
  rw[this]at hy;simp at hy;subst hy;have:i=n:=by omega
  subst this;exact hx
theorem aJ.app{α β : Type}{R : α -> β -> Prop}{a b:List α}{c d:List β}(h1:aJ R a c)(h2:aJ R b d):aJ R (a++b) (c++d):=by
 induction h1 with
 |nil=>exact h2
 |cons h _ ih=>exact .cons h ih
theorem aJ.mk_get{α β : Type}{R : α -> β -> Prop}:∀{l:List α}{m:List β},l.length=m.length->(∀(i:Nat)(x : α)(y : β),l[i]?=some x->m[i]?=some y->R x y)->aJ R l m
 |[],[],_,_ => .nil
 |x::r,y::s,hl,h => .cons (h 0 x y rfl rfl) (aJ.mk_get (by simpa using hl) (λi a b ha hb=>h (i+1) a b (by simpa using ha) (by simpa using hb)))
 |[],_::_,hl,_=>by simp at hl
 |_::_,[],hl,_=>by simp at hl
theorem aJ.piece{α β : Type}{R : α -> β -> Prop}{a b:List α}{cs:List β}{o n:Nat}(h1:aJ R a ((cs.drop o).take n))(h2:aJ R b (cs.drop (o+n))):aJ R (a++b) (cs.drop o):=by have:=h1.app h2;rwa [<-List.drop_drop,List.take_append_drop]at this
theorem aJ.done{α β : Type}{R : α -> β -> Prop}{cs:List β}{o:Nat}(h:cs.length=o):aJ R [] (cs.drop o):=by subst h;simp;exact .nil
section
variable{H:Type}{enc:TypeId×Value->H}{P:Program}{w:World}{num:Nm}{ρ : Rho}{b:DataW H->Nat}{bs:List (DataW H)->Nat}
def noF(_:Nat):Prop:=False
def Rd(enc:TypeId×Value->H)(P:Program)(w:World)(num:Nm)(ρ : Rho)(b:DataW H->Nat)(N:Nat)(t:TypeId){α : Type}(cells : α -> List AV)(good : α -> Nat->Prop):Prop:=
 ∀fuel,fuel<=N->∀cs d ps,DataW.trod enc P w 0 (λ_=>true) true fuel t cs=some (d,ps)->b d<=1048576->∃x : α,aJ (Rv num ρ w noF) (cells x) cs/\good x (b d)
theorem Rd.int{N:Nat}{t:TypeId}(ht:P.underlying t=some (.int .i64)):Rd enc P w num ρ b N t (λn:Int=>[bE n]) (λ_ _=>True):=by intro fuel hN cs d ps h _;obtain⟨n,rfl,_,_⟩:=DataW.trod_int ht h;exact⟨n,.cons (.int _ _) .nil,trivial⟩
theorem Rd.bool{N:Nat}{t:TypeId}(ht:P.underlying t=some .bool):Rd enc P w num ρ b N t (λn:Bool=>[.bool n]) (λ_ _=>True):=by intro fuel hN cs d ps h _;obtain⟨n,rfl,_⟩:=DataW.trod_bool ht h;exact⟨n,.cons (.bool _) .nil,trivial⟩
theorem Rd.str{N:Nat}(B:DN b bs){t:TypeId}(ht:P.underlying t=some .string):Rd enc P w num ρ b N t (λs:Str=>[Str.av s]) (λ_ _=>True):=by
 intro fuel hN cs d ps h hb;obtain⟨s,rfl,hx,_⟩:=DataW.trod_string ht h;cases hx;rw[B.str]at hb;have hl:s.data.toList.length<=big:=by simp only[big];omega
 refine⟨⟨s.data.toList,hl⟩,.cons ?_ .nil,trivial⟩;exact Rv.str (num:=num) (ρ := ρ) (w:=w) (F:=noF) s.data.toList
theorem BB{a:Addr}{n:Nat}{cs:List Value}(h:w.cells? 0 a n=some cs):cs.length=n/\∀j,j<n->w.cell? (a.add j)=cs[j]?:=by
 simp only[World.cells?,Nat.zero_le,if_true]at h
 have hl:∀(l:List Nat)(r:List Value),(l.mapM λi=>w.cell? (a.add i))=some r->r.length=l.length/\∀(j k:Nat),l[j]?=some k->w.cell? (a.add k)=r[j]?:=by
  intro l
  induction l with
  |nil=>intro r hr;simp at hr;subst hr;exact⟨rfl,λj k hk=>by simp at hk⟩
  |cons x l ih=>
   intro r hr;simp only[List.mapM_cons,Option.bind_eq_bind,Option.bind_eq_some_iff,Option.pure_def,aP]at hr;obtain⟨v,hv,r',hr',rfl⟩:=hr;obtain⟨i1,i2⟩:=ih r' hr';refine⟨by simp[i1],?_⟩;intro j k hk;cases j with
   |zero=>simp at hk;subst hk;simpa using hv
   |succ j=>simpa using i2 j k (by simpa using hk)
 obtain⟨h1,h2⟩:=hl _ _ h;rw[List.length_range]at h1;exact⟨h1,λj hj=>h2 j j (by rw[List.getElem?_range hj])⟩
theorem vM(a:Addr):a.add 0=a:=by simp[Addr.add]
theorem BG(b off n:Nat):(Addr.add ⟨b,off,none⟩ n)=⟨b,off+n,none⟩:=by unfold Addr.add;split;rename_i h0;simp[h0];rfl
theorem Rd.slice{N:Nat}(B:DN b bs){t e:TypeId}{sz:Nat}{α : Type}{cells : α -> List AV}{good : α -> Nat->Prop}(enc1 : α -> AV)(ht:P.underlying t=some (.slice e))(hce:P.cellsOf e=sz)(hsz:0<sz)
  (hcells:∀x,(enc1 x).cells=cells x) (hlen:∀x,(cells x).length=sz) (he:Rd enc P w num ρ b N e cells good) :
  Rd enc P w num ρ b (N+1) t (λs:Sl α => [s.av enc1]) (λs n=>(s.nl=true->s.es=[])/\∃ms:List Nat,aJ good s.es ms/\ms.sum+1<=n/\∀m∈ms,1<=m):=by
 intro fuel hN cs d ps h hb;rcases DataW.trod_slice ht h with ⟨rfl,hx⟩|⟨a,len,cap,elems,rest,n,hfn,rfl,hx,_,hlc,hcm,hel,hes,_,_⟩
 cases hx;exact⟨⟨true,[],false,by simp⟩,.cons (.nsl _) .nil,λ_=>rfl,[],.nil,by simpa using B.one _,by simp⟩;cases hx;rw[B.sl,B.sum,B.sum]at hb ⊢;rw[hce]at hes;have hel':elems.length=len:=hel
 have key:∀i,i<len->∃x : α,∃cs',w.cells? 0 (a.add (i*sz)) sz=some cs'/\aJ (Rv num ρ w noF) (cells x) cs'/\good x ((elems.map λy=>b y.1).getD i 0):=by
  intro i hi;have h1:=hes i hi;rw[bX (by omega),Option.bind_eq_some_iff]at h1;obtain⟨cs',h2,h3⟩:=h1;have hm:((elems.map (·.1)).map b)[i]?=some (b (elems[i]'(by omega)).1):=by simp[bX (show i<elems.length by omega)]
  have hle:=aFA hm;obtain⟨x,h4,h5⟩:=he n (by omega) cs' (elems[i]'(by omega)).1 (elems[i]'(by omega)).2 h3 (by omega);refine⟨x,cs',h2,h4,?_⟩;rw[List.getD_eq_getElem?_getD];simpa[bX (show i<elems.length by omega)] using h5
 obtain⟨es,hesl,hese⟩:=pO len key;have hbig:es.length<=big:=by
  have h1:((elems.map (·.1)).map b).length<=((elems.map (·.1)).map b).sum:=gV (λm hm=>by
   obtain⟨d,_,rfl⟩:=List.mem_map.1 hm;exact B.one d)
  simp only[cY]at h1;simp only[big];omega
 refine⟨⟨false,es,false,hbig⟩,.cons ?_ .nil,(by intro h;cases h),(elems.map λy=>b y.1),?_,?_,?_⟩;have hne:es≠[]->a.spot=none:=by
  intro h0;have hl0:0<len:=by rw[<-hesl];exact List.length_pos_iff.2 h0
  obtain⟨x,cs',h1,_,_⟩:=key 0 hl0;obtain⟨c1,c2⟩:=BB h1;have:=c2 0 hsz;rw[Nat.zero_mul,vM,vM,bX (by omega)]at this;simp only[World.cell?]at this;split at this;cases hs:a.spot with
  |none=>rfl
  |some v=>rw[hs]at this;simp at this
  cases this
 obtain⟨ab,ao,asp⟩:=a;have hcell:∀(i:Nat)(x : α),es[i]?=some x->∃cs',cs'.length=sz/\aJ (Rv num ρ w noF) (cells x) cs'/\∀j,j<sz->w.cell? ⟨ab,ao+(i*sz+j),none⟩=cs'[j]?:=by
  intro i x hx;obtain⟨cs',h1,h2,_⟩:=hese i x hx;have hn0:es≠[]:=by intro h;subst h;simp at hx
  have hsp:=hne hn0;simp only at hsp;subst hsp;obtain⟨c1,c2⟩:=BB h1;refine⟨cs',c1,h2,λj hj=>?_⟩;have:=c2 j hj;rw[BG,BG,Nat.add_assoc]at this;exact this
 have hmap:∀(i:Nat)(e':AV),(es.map enc1)[i]?=some e'->∃x : α,es[i]?=some x/\e'=enc1 x:=by intro i e' h;rw[List.getElem?_map,kJ]at h;obtain⟨x,h1,h2⟩:=h;exact⟨x,h1,h2.symm⟩
 have hv:(Value.slice (some ⟨ab,ao,asp⟩) len cap) = .slice (some ⟨ab,ao,asp⟩) (es.map enc1).length cap:=by rw[cY,hesl]
 simp only[Sl.av];rw[hv];refine .sl (es.map enc1) false ab ao cap sz (λk=>(w.cell? ⟨ab,ao+k,none⟩).getD undef) (by rw[cY,hesl];exact hlc) (by intro h;cases h) ?_ ?_ ?_ ?_ asp ?_;intro h0;refine⟨λh=>h,?_⟩;obtain⟨e',r,hr⟩:=List.exists_cons_of_ne_nil h0;obtain⟨x,hx,_⟩:=hmap 0 e' (by rw[hr];rfl);obtain⟨cs',c1,_,c3⟩:=hcell 0 x hx;have h3:=c3 0 hsz;rw[bX (by omega)]at h3;by_cases hlt:ab<w.heap.size;exact hlt;simp[World.cell?,Array.getElem?_eq_none (Nat.le_of_not_lt hlt)]at h3;intro i e' h;obtain⟨x,_,rfl⟩:=hmap i e' h;rw[hcells,hlen];intro k hk;rw[cY]at hk;have hi:k / sz<es.length:=Nat.div_lt_of_lt_mul (by rw[Nat.mul_comm];exact hk);obtain⟨cs',c1,_,c3⟩:=hcell (k / sz) _ (bX hi);have hm:k % sz<sz:=Nat.mod_lt _ hsz;have h3:=c3 (k % sz) hm;have e1:k / sz*sz+k % sz=k:=by rw[Nat.mul_comm];exact Nat.div_add_mod k sz
 rw[e1,bX (by omega)]at h3;rw[h3];rfl;intro i e' j y h hy;obtain⟨x,hx,rfl⟩:=hmap i e' h;obtain⟨cs',c1,c2,c3⟩:=hcell i x hx;rw[hcells]at hy;have hj:j<sz:=by have:=(bK.1 hy).1;rw[hlen]at this;exact this
 rw[c3 j hj,bX (by omega)];exact c2.get j y _ hy (bX (by omega));intro h0;refine hne ?_;intro h;subst h;simp at h0;refine aJ.mk_get (by rw[hesl,cY,hel']) ?_;intro i x m hx hm;obtain⟨_,_,_,hg⟩:=hese i x hx;rw[List.getD_eq_getElem?_getD,hm]at hg;exact hg;have:(elems.map λy=>b y.1)=(elems.map (·.1)).map b:=by simp
 rw[this];omega;intro m hm;obtain⟨y,_,rfl⟩:=List.mem_map.1 hm;exact B.one _
theorem Rd.mono{N M:Nat}{t:TypeId}{α : Type}{cells : α -> List AV}{good : α -> Nat->Prop}(h:Rd enc P w num ρ b N t cells good)(hM:M<=N):Rd enc P w num ρ b M t cells good:=
 λfuel hf=>h fuel (by omega)
theorem eN{t:TypeId}{fs:Array Field}{L:List (TypeId×Nat)}{fuel:Nat}{cs:List Value}{x:DataW H×List MemPlace}(ht:P.underlying t=some (.struct fs))(hL:fs.toList.map (λf=>(f.type,f.offset))=L)
  (h:DataW.trod enc P w 0 (λ_=>true) true fuel t cs=some x) :
  ∃(xs:List (DataW H×List MemPlace))(n:Nat),fuel=n+1/\x.1 = .agg (xs.map (·.1))/\cs.length=P.cellsOf t/\xs.length=L.length /\
   ∀(i:Nat)(p:TypeId×Nat),L[i]?=some p->DataW.trod enc P w 0 (λ_=>true) true n p.1 ((cs.drop p.2).take (P.cellsOf p.1))=xs[i]?:=by
 obtain⟨xs,n,h0,rfl,h1,h2,h3⟩:=DataW.trod_struct ht h;subst hL;refine⟨xs,n,h0,rfl,h1,by simpa using h2,?_⟩;intro i p hp;rw[List.getElem?_map,kJ]at hp;obtain⟨f,hf,rfl⟩:=hp;exact h3 i f (by simpa using hf)
end
end
section
structure Loop where
 v:Str
 lo:Lin
 hi:Sl Lin
 step:Int
def Loop.av(x:Loop):AV:=.agg [.str x.v.bs,.int .i64 x.lo.c,x.lo.ts.av aW.av,x.hi.av Lin.av,.int .i64 x.step]
structure aV where
 loops:Sl Loop
 value:Int
 at_:Sl Lin
 dyn:Bool
 index:aE
 check:Int
 body:aE
def aV.cells(x:aV):List AV:=[x.loops.av Loop.av,.int .i64 x.value,x.at_.av Lin.av,.bool x.dyn]++x.index.cells++[.int .i64 x.check]++x.body.cells
def aV.av(x:aV):AV:=.agg x.cells
theorem Loop.avc(x:Loop):Loop.av x = .agg [.str x.v.bs,.int .i64 x.lo.c,.sl x.lo.ts.nl (x.lo.ts.es.map aW.av) x.lo.ts.cl,.sl x.hi.nl (x.hi.es.map Lin.av) x.hi.cl,.int .i64 x.step]:=rfl
theorem Loop.cells_av(x:Loop):(Loop.av x).cells=[.str x.v.bs,.int .i64 x.lo.c,.sl x.lo.ts.nl (x.lo.ts.es.map aW.av) x.lo.ts.cl,.sl x.hi.nl (x.hi.es.map Lin.av) x.hi.cl,.int .i64 x.step]:=by rw[Loop.avc];rfl
theorem Loop.isAgg_av(x:Loop):(Loop.av x).isAgg=true:=by rw[Loop.avc];rfl
theorem Loop.fits_av(x:Loop):(Loop.av x).fits 5 true=true:=by rw[Loop.avc];rfl
theorem Loop.tree_av(x:Loop):(Loop.av x).tree=true:=by rw[Loop.avc];simp[go_sem]
theorem Loop.treeL_av(l:List Loop):Tev.treeL (l.map Loop.av)=true:=bL Loop.tree_av l
theorem Loop.fld_av(off sz:Nat)(ag:Bool)(x:Loop):d9 off sz ag [Loop.av x]=d9 off sz ag [.agg [.str x.v.bs,.int .i64 x.lo.c,.sl x.lo.ts.nl (x.lo.ts.es.map aW.av) x.lo.ts.cl,.sl x.hi.nl (x.hi.es.map Lin.av) x.hi.cl,.int .i64 x.step]]:=by rw[Loop.avc]
theorem Loop.fad_av(off sz:Nat)(ag:Bool)(x:Loop):eA off sz ag [.fp (Loop.av x)]=eA off sz ag [.fp (.agg [.str x.v.bs,.int .i64 x.lo.c,.sl x.lo.ts.nl (x.lo.ts.es.map aW.av) x.lo.ts.cl,.sl x.hi.nl (x.hi.es.map Lin.av) x.hi.cl,.int .i64 x.step])]:=by rw[Loop.avc]
theorem Loop.box_av(h:Hp)(k:Nat)(x:Loop):eB h k [Loop.av x]=eB h k [.agg [.str x.v.bs,.int .i64 x.lo.c,.sl x.lo.ts.nl (x.lo.ts.es.map aW.av) x.lo.ts.cl,.sl x.hi.nl (x.hi.es.map Lin.av) x.hi.cl,.int .i64 x.step]]:=by rw[Loop.avc]
attribute [go_sem high] Loop.cells_av Loop.isAgg_av Loop.fits_av Loop.tree_av Loop.treeL_av
attribute [go_sem ↓ high] Loop.fld_av Loop.fad_av Loop.box_av
theorem aV.avc(x:aV):aV.av x = .agg [.sl x.loops.nl (x.loops.es.map Loop.av) x.loops.cl,.int .i64 x.value,.sl x.at_.nl (x.at_.es.map Lin.av) x.at_.cl,.bool x.dyn,.str x.index.op.bs,.int .i64 x.index.num,.int .i64 x.index.value,.str x.index.name.bs,.sl x.index.at_.nl (x.index.at_.es.map Lin.av) x.index.at_.cl,.bool x.index.dyn,.int .i64 x.index.check,.sl x.index.fn.nl (x.index.fn.es.map aI.av) x.index.fn.cl,.sl x.index.knl (x.index.kids.map aE.av) x.index.kcl,.int .i64 x.check,.str x.body.op.bs,.int .i64 x.body.num,.int .i64 x.body.value,.str x.body.name.bs,.sl x.body.at_.nl (x.body.at_.es.map Lin.av) x.body.at_.cl,.bool x.body.dyn,.int .i64 x.body.check,.sl x.body.fn.nl (x.body.fn.es.map aI.av) x.body.fn.cl,.sl x.body.knl (x.body.kids.map aE.av) x.body.kcl]:=rfl
theorem aV.cells_av(x:aV):(aV.av x).cells=[.sl x.loops.nl (x.loops.es.map Loop.av) x.loops.cl,.int .i64 x.value,.sl x.at_.nl (x.at_.es.map Lin.av) x.at_.cl,.bool x.dyn,.str x.index.op.bs,.int .i64 x.index.num,.int .i64 x.index.value,.str x.index.name.bs,.sl x.index.at_.nl (x.index.at_.es.map Lin.av) x.index.at_.cl,.bool x.index.dyn,.int .i64 x.index.check,.sl x.index.fn.nl (x.index.fn.es.map aI.av) x.index.fn.cl,.sl x.index.knl (x.index.kids.map aE.av) x.index.kcl,.int .i64 x.check,.str x.body.op.bs,.int .i64 x.body.num,.int .i64 x.body.value,.str x.body.name.bs,.sl x.body.at_.nl (x.body.at_.es.map Lin.av) x.body.at_.cl,.bool x.body.dyn,.int .i64 x.body.check,.sl x.body.fn.nl (x.body.fn.es.map aI.av) x.body.fn.cl,.sl x.body.knl (x.body.kids.map aE.av) x.body.kcl]:=by rw[aV.avc];rfl
theorem aV.isAgg_av(x:aV):(aV.av x).isAgg=true:=by rw[aV.avc];rfl
theorem aV.fits_av(x:aV):(aV.av x).fits 23 true=true:=by rw[aV.avc];rfl
theorem aV.tree_av(x:aV):(aV.av x).tree=true:=by rw[aV.avc];simp[go_sem]
theorem aV.treeL_av(l:List aV):Tev.treeL (l.map aV.av)=true:=bL aV.tree_av l
theorem aV.fld_av(off sz:Nat)(ag:Bool)(x:aV):d9 off sz ag [aV.av x]=d9 off sz ag [.agg [.sl x.loops.nl (x.loops.es.map Loop.av) x.loops.cl,.int .i64 x.value,.sl x.at_.nl (x.at_.es.map Lin.av) x.at_.cl,.bool x.dyn,.str x.index.op.bs,.int .i64 x.index.num,.int .i64 x.index.value,.str x.index.name.bs,.sl x.index.at_.nl (x.index.at_.es.map Lin.av) x.index.at_.cl,.bool x.index.dyn,.int .i64 x.index.check,.sl x.index.fn.nl (x.index.fn.es.map aI.av) x.index.fn.cl,.sl x.index.knl (x.index.kids.map aE.av) x.index.kcl,.int .i64 x.check,.str x.body.op.bs,.int .i64 x.body.num,.int .i64 x.body.value,.str x.body.name.bs,.sl x.body.at_.nl (x.body.at_.es.map Lin.av) x.body.at_.cl,.bool x.body.dyn,.int .i64 x.body.check,.sl x.body.fn.nl (x.body.fn.es.map aI.av) x.body.fn.cl,.sl x.body.knl (x.body.kids.map aE.av) x.body.kcl]]:=by rw[aV.avc]
theorem aV.fad_av(off sz:Nat)(ag:Bool)(x:aV):eA off sz ag [.fp (aV.av x)]=eA off sz ag [.fp (.agg [.sl x.loops.nl (x.loops.es.map Loop.av) x.loops.cl,.int .i64 x.value,.sl x.at_.nl (x.at_.es.map Lin.av) x.at_.cl,.bool x.dyn,.str x.index.op.bs,.int .i64 x.index.num,.int .i64 x.index.value,.str x.index.name.bs,.sl x.index.at_.nl (x.index.at_.es.map Lin.av) x.index.at_.cl,.bool x.index.dyn,.int .i64 x.index.check,.sl x.index.fn.nl (x.index.fn.es.map aI.av) x.index.fn.cl,.sl x.index.knl (x.index.kids.map aE.av) x.index.kcl,.int .i64 x.check,.str x.body.op.bs,.int .i64 x.body.num,.int .i64 x.body.value,.str x.body.name.bs,.sl x.body.at_.nl (x.body.at_.es.map Lin.av) x.body.at_.cl,.bool x.body.dyn,.int .i64 x.body.check,.sl x.body.fn.nl (x.body.fn.es.map aI.av) x.body.fn.cl,.sl x.body.knl (x.body.kids.map aE.av) x.body.kcl])]:=by rw[aV.avc]
theorem aV.box_av(h:Hp)(k:Nat)(x:aV):eB h k [aV.av x]=eB h k [.agg [.sl x.loops.nl (x.loops.es.map Loop.av) x.loops.cl,.int .i64 x.value,.sl x.at_.nl (x.at_.es.map Lin.av) x.at_.cl,.bool x.dyn,.str x.index.op.bs,.int .i64 x.index.num,.int .i64 x.index.value,.str x.index.name.bs,.sl x.index.at_.nl (x.index.at_.es.map Lin.av) x.index.at_.cl,.bool x.index.dyn,.int .i64 x.index.check,.sl x.index.fn.nl (x.index.fn.es.map aI.av) x.index.fn.cl,.sl x.index.knl (x.index.kids.map aE.av) x.index.kcl,.int .i64 x.check,.str x.body.op.bs,.int .i64 x.body.num,.int .i64 x.body.value,.str x.body.name.bs,.sl x.body.at_.nl (x.body.at_.es.map Lin.av) x.body.at_.cl,.bool x.body.dyn,.int .i64 x.body.check,.sl x.body.fn.nl (x.body.fn.es.map aI.av) x.body.fn.cl,.sl x.body.knl (x.body.kids.map aE.av) x.body.kcl]]:=by rw[aV.avc]
attribute [go_sem high] aV.cells_av aV.isAgg_av aV.fits_av aV.tree_av aV.treeL_av
attribute [go_sem ↓ high] aV.fld_av aV.fad_av aV.box_av
end
section
structure TyP(P:Program)(tI tS tB tCoef tLin tStep tPull sCoef sLin sStep sPull cK sStr:TypeId):Prop where
 uI:P.underlying tI=some (.int .i64)
 uS:P.underlying tS=some .string
 uB:P.underlying tB=some .bool
 u_tCoef:∃fs,P.underlying tCoef=some (.struct fs)/\fs.toList.map (λf=>(f.type,f.offset))=[(tS,0),(tI,1)]
 u_tLin:∃fs,P.underlying tLin=some (.struct fs)/\fs.toList.map (λf=>(f.type,f.offset))=[(tI,0),(sCoef,1)]
 u_tStep:∃fs,P.underlying tStep=some (.struct fs)/\fs.toList.map (λf=>(f.type,f.offset))=[(tS,0),(tI,1),(cK,2)]
 u_tPull:∃fs,P.underlying tPull=some (.struct fs)/\fs.toList.map (λf=>(f.type,f.offset))=[(tS,0),(tI,1),(tI,2),(tS,3),(sLin,4),(tB,5),(tI,6),(sStep,7),(sPull,8)]
 u_sCoef:P.underlying sCoef=some (.slice tCoef)
 u_sLin:P.underlying sLin=some (.slice tLin)
 u_sStep:P.underlying sStep=some (.slice tStep)
 u_sPull:P.underlying sPull=some (.slice tPull)
 u_sInt:P.underlying cK=some (.slice tI)
 u_sStr:P.underlying sStr=some (.slice tS)
 c_tI:P.cellsOf tI=1
 c_tS:P.cellsOf tS=1
 c_tB:P.cellsOf tB=1
 c_tCoef:P.cellsOf tCoef=2
 c_tLin:P.cellsOf tLin=2
 c_tStep:P.cellsOf tStep=3
 c_tPull:P.cellsOf tPull=9
 c_sCoef:P.cellsOf sCoef=1
 c_sLin:P.cellsOf sLin=1
 c_sStep:P.cellsOf sStep=1
 c_sPull:P.cellsOf sPull=1
 c_sInt:P.cellsOf cK=1
 c_sStr:P.cellsOf sStr=1
structure TyN(P:Program)(tI tS tB tLin tPull sLin tLoop tAcc tNest sLoop:TypeId):Prop where
 u_tLoop:∃fs,P.underlying tLoop=some (.struct fs)/\fs.toList.map (λf=>(f.type,f.offset))=[(tS,0),(tLin,1),(sLin,3),(tI,4)]
 u_tAcc:∃fs,P.underlying tAcc=some (.struct fs)/\fs.toList.map (λf=>(f.type,f.offset))=[(tI,0),(sLin,1),(tB,2)]
 u_tNest:∃fs,P.underlying tNest=some (.struct fs)/\fs.toList.map (λf=>(f.type,f.offset))=[(sLoop,0),(tAcc,1),(tPull,4),(tI,13),(tPull,14)]
 u_sLoop:P.underlying sLoop=some (.slice tLoop)
 c_tLoop:P.cellsOf tLoop=5
 c_tAcc:P.cellsOf tAcc=3
 c_tNest:P.cellsOf tNest=23
 c_sLoop:P.cellsOf sLoop=1
structure Acc where
 value:Int
 at_:Sl Lin
 dyn:Bool
section
variable{H:Type}{enc:TypeId×Value->H}{P:Program}{w:World}{num:Nm}{ρ : Rho}{b:DataW H->Nat}{bs:List (DataW H)->Nat}{tI tS tB tCoef tLin tStep tPull sCoef sLin sStep sPull cK sStr:TypeId}
variable(B:DN b bs)(T:TyP P tI tS tB tCoef tLin tStep tPull sCoef sLin sStep sPull cK sStr)
include B T
theorem GW(N:Nat):Rd enc P w num ρ b N tCoef (λx:aW=>[Str.av x.v]++([bE x.c]++[])) (λ_ _=>True):=by
 intro fuel hN cs d ps h hb;obtain⟨fs,hu,hL⟩:=T.u_tCoef;obtain⟨xs,n,hn,hx,hcl,hl,hf⟩:=eN hu hL h;rw[T.c_tCoef]at hcl;obtain⟨y0,y1,rfl⟩:∃y0 y1,xs=[y0,y1]:=by
  match xs,hl with
  |[y0,y1],_=>exact⟨y0,y1,rfl⟩
 have hx':d = .agg [y0.1,y1.1]:=hx;subst hx';rw[B.agg]at hb ⊢;simp only[B.cons,B.nil]at hb ⊢;have f0:_=some y0:=hf 0 (tS,0) rfl;have f1:_=some y1:=hf 1 (tI,1) rfl;simp only[T.c_tI,T.c_tS]at f0 f1;obtain⟨a0,p0,g0⟩:=(Rd.str (enc:=enc) (w:=w) (num:=num) (ρ := ρ) (N:=n) B T.uS) n (Nat.le_refl _) _ y0.1 y0.2 f0 (by omega);obtain⟨a1,p1,g1⟩:=(Rd.int (enc:=enc) (w:=w) (num:=num) (ρ := ρ) (b:=b) (N:=n) T.uI) n (Nat.le_refl _) _ y1.1 y1.2 f1 (by omega);refine⟨⟨a0,a1⟩,?_,trivial⟩;have q:=(p0.piece (p1.piece (aJ.done (by omega))))
 rw[List.drop_zero]at q;exact q
theorem GY(N:Nat):Rd enc P w num ρ b N sCoef (λs:Sl aW=>[s.av aW.av]) (λs n=>(s.nl=true->s.es=[])/\∃ms:List Nat,aJ (λ_ _=>True) s.es ms/\ms.sum+1<=n/\∀m∈ms,1<=m):=
 (Rd.slice B (N:=N) (sz:=2) aW.av T.u_sCoef T.c_tCoef (by decide) (λx=>rfl) (λx=>rfl) (GW B T N)).mono (Nat.le_succ N)
theorem DU(N:Nat):Rd enc P w num ρ b N tLin (λx:Lin=>[bE x.c]++([x.ts.av aW.av]++[])) (λ_ _=>True):=by
 intro fuel hN cs d ps h hb;obtain⟨fs,hu,hL⟩:=T.u_tLin;obtain⟨xs,n,hn,hx,hcl,hl,hf⟩:=eN hu hL h;rw[T.c_tLin]at hcl;obtain⟨y0,y1,rfl⟩:∃y0 y1,xs=[y0,y1]:=by
  match xs,hl with
  |[y0,y1],_=>exact⟨y0,y1,rfl⟩
 have hx':d = .agg [y0.1,y1.1]:=hx;subst hx';rw[B.agg]at hb ⊢;simp only[B.cons,B.nil]at hb ⊢;have f0:_=some y0:=hf 0 (tI,0) rfl;have f1:_=some y1:=hf 1 (sCoef,1) rfl;simp only[T.c_sCoef,T.c_tI]at f0 f1;obtain⟨a0,p0,g0⟩:=(Rd.int (enc:=enc) (w:=w) (num:=num) (ρ := ρ) (b:=b) (N:=n) T.uI) n (Nat.le_refl _) _ y0.1 y0.2 f0 (by omega);obtain⟨a1,p1,g1⟩:=(GY (enc:=enc) (w:=w) (num:=num) (ρ := ρ) B T n) n (Nat.le_refl _) _ y1.1 y1.2 f1 (by omega);refine⟨⟨a0,a1⟩,?_,trivial⟩;have q:=(p0.piece (p1.piece (aJ.done (by omega))))
 rw[List.drop_zero]at q;exact q
theorem wC(N:Nat):Rd enc P w num ρ b N sLin (λs:Sl Lin=>[s.av Lin.av]) (λs n=>(s.nl=true->s.es=[])/\∃ms:List Nat,aJ (λ_ _=>True) s.es ms/\ms.sum+1<=n/\∀m∈ms,1<=m):=
 (Rd.slice B (N:=N) (sz:=2) Lin.av T.u_sLin T.c_tLin (by decide) (λx=>rfl) (λx=>rfl) (DU B T N)).mono (Nat.le_succ N)
theorem DV(N:Nat):Rd enc P w num ρ b N cK (λs:Sl Int=>[s.av bE]) (λs n=>(s.nl=true->s.es=[])/\∃ms:List Nat,aJ (λ_ _=>True) s.es ms/\ms.sum+1<=n/\∀m∈ms,1<=m):=
 (Rd.slice B (N:=N) (sz:=1) bE T.u_sInt T.c_tI (by decide) (λx=>rfl) (λx=>rfl) (Rd.int T.uI)).mono (Nat.le_succ N)
theorem LB(N:Nat):Rd enc P w num ρ b N sStr (λs:Sl Str=>[s.av Str.av]) (λs n=>(s.nl=true->s.es=[])/\∃ms:List Nat,aJ (λ_ _=>True) s.es ms/\ms.sum+1<=n/\∀m∈ms,1<=m):=
 (Rd.slice B (N:=N) (sz:=1) Str.av T.u_sStr T.c_tS (by decide) (λx=>rfl) (λx=>rfl) (Rd.str B T.uS)).mono (Nat.le_succ N)
theorem GV(N:Nat):Rd enc P w num ρ b N tStep (λx:aI=>[Str.av x.op]++([bE x.num]++([x.args.av bE]++[]))) (λ_ _=>True):=by
 intro fuel hN cs d ps h hb;obtain⟨fs,hu,hL⟩:=T.u_tStep;obtain⟨xs,n,hn,hx,hcl,hl,hf⟩:=eN hu hL h;rw[T.c_tStep]at hcl;obtain⟨y0,y1,y2,rfl⟩:∃y0 y1 y2,xs=[y0,y1,y2]:=by
  match xs,hl with
  |[y0,y1,y2],_=>exact⟨y0,y1,y2,rfl⟩
 have hx':d = .agg [y0.1,y1.1,y2.1]:=hx;subst hx';rw[B.agg]at hb ⊢;simp only[B.cons,B.nil]at hb ⊢;have f0:_=some y0:=hf 0 (tS,0) rfl;have f1:_=some y1:=hf 1 (tI,1) rfl;have f2:_=some y2:=hf 2 (cK,2) rfl;simp only[T.c_sInt,T.c_tI,T.c_tS]at f0 f1 f2;obtain⟨a0,p0,g0⟩:=(Rd.str (enc:=enc) (w:=w) (num:=num) (ρ := ρ) (N:=n) B T.uS) n (Nat.le_refl _) _ y0.1 y0.2 f0 (by omega);obtain⟨a1,p1,g1⟩:=(Rd.int (enc:=enc) (w:=w) (num:=num) (ρ := ρ) (b:=b) (N:=n) T.uI) n (Nat.le_refl _) _ y1.1 y1.2 f1 (by omega);obtain⟨a2,p2,g2⟩:=(DV (enc:=enc) (w:=w) (num:=num) (ρ := ρ) B T n) n (Nat.le_refl _) _ y2.1 y2.2 f2 (by omega);refine⟨⟨a0,a1,a2⟩,?_,trivial⟩;have q:=(p0.piece (p1.piece (p2.piece (aJ.done (by omega)))))
 rw[List.drop_zero]at q;exact q
theorem GX(N:Nat):Rd enc P w num ρ b N sStep (λs:Sl aI=>[s.av aI.av]) (λs n=>(s.nl=true->s.es=[])/\∃ms:List Nat,aJ (λ_ _=>True) s.es ms/\ms.sum+1<=n/\∀m∈ms,1<=m):=
 (Rd.slice B (N:=N) (sz:=3) aI.av T.u_sStep T.c_tStep (by decide) (λx=>rfl) (λx=>rfl) (GV B T N)).mono (Nat.le_succ N)
omit B T in
theorem GO:∀{l:List aE}{ms:List Nat},aJ (fun(p:aE) n=>p.ok/\p.sz<=n) l ms->(∀p∈l,p.ok)/\aE.szL l<=ms.sum
 |_,_,.nil=>⟨by simp,by simp[aE.szL]⟩
 |_,_,.cons h r=>by obtain⟨h1,h2⟩:=GO r;refine⟨?_,by simp[aE.szL];omega⟩;intro p hp;rcases List.mem_cons.1 hp with rfl|hp;exact h.1;exact h1 p hp
theorem tX(N:Nat)(hs:∀n,n+1<=N->Rd enc P w num ρ b n sPull (λs:Sl aE=>[s.av aE.av]) (λs n=>(s.nl=true->s.es=[])/\∃ms:List Nat,aJ (λ(p:aE) n=>p.ok/\p.sz<=n) s.es ms/\ms.sum+1<=n/\∀m∈ms,1<=m)):Rd enc P w num ρ b N tPull (λx:aE=>[Str.av x.op]++([bE x.num]++([bE x.value]++([Str.av x.name]++([x.at_.av Lin.av]++([.bool x.dyn]++([bE x.check]++([x.fn.av aI.av]++([x.kav]++[]))))))))) (λp n=>p.ok/\p.sz<=n):=by
 intro fuel hN cs d ps h hb;obtain⟨fs,hu,hL⟩:=T.u_tPull;obtain⟨xs,n,hn,hx,hcl,hl,hf⟩:=eN hu hL h;rw[T.c_tPull]at hcl;obtain⟨y0,y1,y2,y3,y4,y5,y6,y7,y8,rfl⟩:∃y0 y1 y2 y3 y4 y5 y6 y7 y8,xs=[y0,y1,y2,y3,y4,y5,y6,y7,y8]:=by
  match xs,hl with
  |[y0,y1,y2,y3,y4,y5,y6,y7,y8],_=>exact⟨y0,y1,y2,y3,y4,y5,y6,y7,y8,rfl⟩
 have hx':d = .agg [y0.1,y1.1,y2.1,y3.1,y4.1,y5.1,y6.1,y7.1,y8.1]:=hx;subst hx';rw[B.agg]at hb ⊢;simp only[B.cons,B.nil]at hb ⊢;have f0:_=some y0:=hf 0 (tS,0) rfl;have f1:_=some y1:=hf 1 (tI,1) rfl;have f2:_=some y2:=hf 2 (tI,2) rfl;have f3:_=some y3:=hf 3 (tS,3) rfl;have f4:_=some y4:=hf 4 (sLin,4) rfl;have f5:_=some y5:=hf 5 (tB,5) rfl;have f6:_=some y6:=hf 6 (tI,6) rfl;have f7:_=some y7:=hf 7 (sStep,7) rfl;have f8:_=some y8:=hf 8 (sPull,8) rfl;simp only[T.c_sLin,T.c_sPull,T.c_sStep,T.c_tB,T.c_tI,T.c_tS]at f0 f1 f2 f3 f4 f5 f6 f7 f8;obtain⟨a0,p0,g0⟩:=(Rd.str (enc:=enc) (w:=w) (num:=num) (ρ := ρ) (N:=n) B T.uS) n (Nat.le_refl _) _ y0.1 y0.2 f0 (by omega);obtain⟨a1,p1,g1⟩:=(Rd.int (enc:=enc) (w:=w) (num:=num) (ρ := ρ) (b:=b) (N:=n) T.uI) n (Nat.le_refl _) _ y1.1 y1.2 f1 (by omega);obtain⟨a2,p2,g2⟩:=(Rd.int (enc:=enc) (w:=w) (num:=num) (ρ := ρ) (b:=b) (N:=n) T.uI) n (Nat.le_refl _) _ y2.1 y2.2 f2 (by omega);obtain⟨a3,p3,g3⟩:=(Rd.str (enc:=enc) (w:=w) (num:=num) (ρ := ρ) (N:=n) B T.uS) n (Nat.le_refl _) _ y3.1 y3.2 f3 (by omega);obtain⟨a4,p4,g4⟩:=(wC (enc:=enc) (w:=w) (num:=num) (ρ := ρ) B T n) n (Nat.le_refl _) _ y4.1 y4.2 f4 (by omega);obtain⟨a5,p5,g5⟩:=(Rd.bool (enc:=enc) (w:=w) (num:=num) (ρ := ρ) (b:=b) (N:=n) T.uB) n (Nat.le_refl _) _ y5.1 y5.2 f5 (by omega);obtain⟨a6,p6,g6⟩:=(Rd.int (enc:=enc) (w:=w) (num:=num) (ρ := ρ) (b:=b) (N:=n) T.uI) n (Nat.le_refl _) _ y6.1 y6.2 f6 (by omega);obtain⟨a7,p7,g7⟩:=(GX (enc:=enc) (w:=w) (num:=num) (ρ := ρ) B T n) n (Nat.le_refl _) _ y7.1 y7.2 f7 (by omega);obtain⟨a8,p8,g8⟩:=(hs n (by omega)) n (Nat.le_refl _) _ y8.1 y8.2 f8 (by omega);refine⟨.mk a0 a1 a2 a3 a4 a5 a6 a7 a8.nl a8.es a8.cl,?_,?_⟩
 rotate_left
 obtain⟨_,ms,m1,m2,_⟩:=g8;obtain⟨k1,k2⟩:=GO m1;refine⟨(aE.ok_iff _).2 ⟨a8.ok,k1⟩,?_⟩;rw[aE.sz_eq];show 1+aE.szL a8.es<=_;omega;have q:=(p0.piece (p1.piece (p2.piece (p3.piece (p4.piece (p5.piece (p6.piece (p7.piece (p8.piece (aJ.done (by omega)))))))))))
 rw[List.drop_zero]at q;exact q
theorem E0(N:Nat)(h:Rd enc P w num ρ b N tPull (λx:aE=>[Str.av x.op]++([bE x.num]++([bE x.value]++([Str.av x.name]++([x.at_.av Lin.av]++([.bool x.dyn]++([bE x.check]++([x.fn.av aI.av]++([x.kav]++[]))))))))) (λp n=>p.ok/\p.sz<=n)):Rd enc P w num ρ b (N+1) sPull (λs:Sl aE=>[s.av aE.av]) (λs n=>(s.nl=true->s.es=[])/\∃ms:List Nat,aJ (fun(p:aE) n=>p.ok/\p.sz<=n) s.es ms/\ms.sum+1<=n/\∀m∈ms,1<=m):=
 Rd.slice B (N:=N) (sz:=9) aE.av T.u_sPull T.c_tPull (by decide) (λx=>by rw[aE.av_eq];rfl) (λx=>rfl) h
theorem qX:∀N:Nat,Rd enc P w num ρ b N tPull (λx:aE=>[Str.av x.op]++([bE x.num]++([bE x.value]++([Str.av x.name]++([x.at_.av Lin.av]++([.bool x.dyn]++([bE x.check]++([x.fn.av aI.av]++([x.kav]++[]))))))))) (λp n=>p.ok/\p.sz<=n)
 |0=>tX B T 0 (λn hn=>by omega)
 |N+1=>tX B T (N+1) (λn hn=>(E0 B T N (qX N)).mono (by omega))
end
section
variable{H:Type}{enc:TypeId×Value->H}{P:Program}{w:World}{num:Nm}{ρ : Rho}{b:DataW H->Nat}{bs:List (DataW H)->Nat}{tI tS tB tCoef tLin tStep tPull sCoef sLin sStep sPull cK sStr tLoop tAcc tNest sLoop:TypeId}
variable(B:DN b bs)(T:TyP P tI tS tB tCoef tLin tStep tPull sCoef sLin sStep sPull cK sStr)(N:TyN P tI tS tB tLin tPull sLin tLoop tAcc tNest sLoop)
include B T N
theorem EZ(M:Nat):Rd enc P w num ρ b M tLoop (λx:Loop=>[Str.av x.v]++(([bE x.lo.c]++([x.lo.ts.av aW.av]++[]))++([x.hi.av Lin.av]++([bE x.step]++[])))) (λx _=>x.hi.nl=true->x.hi.es=[]):=by
 intro fuel hN cs d ps h hb;obtain⟨fs,hu,hL⟩:=N.u_tLoop;obtain⟨xs,n,hn,hx,hcl,hl,hf⟩:=eN hu hL h;rw[N.c_tLoop]at hcl;obtain⟨y0,y1,y2,y3,rfl⟩:∃y0 y1 y2 y3,xs=[y0,y1,y2,y3]:=by
  match xs,hl with
  |[y0,y1,y2,y3],_=>exact⟨y0,y1,y2,y3,rfl⟩
 have hx':d = .agg [y0.1,y1.1,y2.1,y3.1]:=hx;subst hx';rw[B.agg]at hb ⊢;simp only[B.cons,B.nil]at hb ⊢;have f0:_=some y0:=hf 0 (tS,0) rfl;have f1:_=some y1:=hf 1 (tLin,1) rfl;have f2:_=some y2:=hf 2 (sLin,3) rfl;have f3:_=some y3:=hf 3 (tI,4) rfl;simp only[T.c_sLin,T.c_tI,T.c_tLin,T.c_tS]at f0 f1 f2 f3;obtain⟨a0,p0,g0⟩:=(Rd.str (enc:=enc) (w:=w) (num:=num) (ρ := ρ) (N:=n) B T.uS) n (Nat.le_refl _) _ y0.1 y0.2 f0 (by omega);obtain⟨a1,p1,g1⟩:=(DU (enc:=enc) (w:=w) (num:=num) (ρ := ρ) B T n) n (Nat.le_refl _) _ y1.1 y1.2 f1 (by omega);obtain⟨a2,p2,g2⟩:=(wC (enc:=enc) (w:=w) (num:=num) (ρ := ρ) B T n) n (Nat.le_refl _) _ y2.1 y2.2 f2 (by omega);obtain⟨a3,p3,g3⟩:=(Rd.int (enc:=enc) (w:=w) (num:=num) (ρ := ρ) (b:=b) (N:=n) T.uI) n (Nat.le_refl _) _ y3.1 y3.2 f3 (by omega);refine⟨⟨a0,a1,a2,a3⟩,?_,g2.1⟩;have q:=(p0.piece (p1.piece (p2.piece (p3.piece (aJ.done (by omega))))))
 rw[List.drop_zero]at q;exact q
theorem E1(M:Nat):Rd enc P w num ρ b M sLoop (λs:Sl Loop=>[s.av Loop.av]) (λs n=>(s.nl=true->s.es=[])/\∃ms:List Nat,aJ (fun(x:Loop)(_:Nat)=>x.hi.nl=true->x.hi.es=[]) s.es ms/\ms.sum+1<=n/\∀m∈ms,1<=m):=
 (Rd.slice B (N:=M) (sz:=5) Loop.av N.u_sLoop N.c_tLoop (by decide) (λx=>rfl) (λx=>rfl) (EZ B T N M)).mono (Nat.le_succ M)
theorem LA(M:Nat):Rd enc P w num ρ b M tAcc (λx:Acc=>[bE x.value]++([x.at_.av Lin.av]++([.bool x.dyn]++[]))) (λ_ _=>True):=by
 intro fuel hN cs d ps h hb;obtain⟨fs,hu,hL⟩:=N.u_tAcc;obtain⟨xs,n,hn,hx,hcl,hl,hf⟩:=eN hu hL h;rw[N.c_tAcc]at hcl;obtain⟨y0,y1,y2,rfl⟩:∃y0 y1 y2,xs=[y0,y1,y2]:=by
  match xs,hl with
  |[y0,y1,y2],_=>exact⟨y0,y1,y2,rfl⟩
 have hx':d = .agg [y0.1,y1.1,y2.1]:=hx;subst hx';rw[B.agg]at hb ⊢;simp only[B.cons,B.nil]at hb ⊢;have f0:_=some y0:=hf 0 (tI,0) rfl;have f1:_=some y1:=hf 1 (sLin,1) rfl;have f2:_=some y2:=hf 2 (tB,2) rfl;simp only[T.c_sLin,T.c_tB,T.c_tI]at f0 f1 f2;obtain⟨a0,p0,g0⟩:=(Rd.int (enc:=enc) (w:=w) (num:=num) (ρ := ρ) (b:=b) (N:=n) T.uI) n (Nat.le_refl _) _ y0.1 y0.2 f0 (by omega);obtain⟨a1,p1,g1⟩:=(wC (enc:=enc) (w:=w) (num:=num) (ρ := ρ) B T n) n (Nat.le_refl _) _ y1.1 y1.2 f1 (by omega);obtain⟨a2,p2,g2⟩:=(Rd.bool (enc:=enc) (w:=w) (num:=num) (ρ := ρ) (b:=b) (N:=n) T.uB) n (Nat.le_refl _) _ y2.1 y2.2 f2 (by omega);refine⟨⟨a0,a1,a2⟩,?_,trivial⟩;have q:=(p0.piece (p1.piece (p2.piece (aJ.done (by omega)))))
 rw[List.drop_zero]at q;exact q
theorem EY(M:Nat):Rd enc P w num ρ b M tNest (λx:aV=>[x.loops.av Loop.av]++(([bE x.value]++([x.at_.av Lin.av]++([.bool x.dyn]++[])))++(([Str.av x.index.op]++([bE x.index.num]++([bE x.index.value]++([Str.av x.index.name]++([x.index.at_.av Lin.av]++([.bool x.index.dyn]++([bE x.index.check]++([x.index.fn.av aI.av]++([x.index.kav]++[])))))))))++([bE x.check]++(([Str.av x.body.op]++([bE x.body.num]++([bE x.body.value]++([Str.av x.body.name]++([x.body.at_.av Lin.av]++([.bool x.body.dyn]++([bE x.body.check]++([x.body.fn.av aI.av]++([x.body.kav]++[])))))))))++[]))))) (λx n=>x.body.ok/\x.index.ok/\x.loops.es.length+x.body.sz+x.index.sz<=n/\∀y∈x.loops.es,y.hi.nl=true->y.hi.es=[]):=by
 intro fuel hN cs d ps h hb;obtain⟨fs,hu,hL⟩:=N.u_tNest;obtain⟨xs,n,hn,hx,hcl,hl,hf⟩:=eN hu hL h;rw[N.c_tNest]at hcl;obtain⟨y0,y1,y2,y3,y4,rfl⟩:∃y0 y1 y2 y3 y4,xs=[y0,y1,y2,y3,y4]:=by
  match xs,hl with
  |[y0,y1,y2,y3,y4],_=>exact⟨y0,y1,y2,y3,y4,rfl⟩
 have hx':d = .agg [y0.1,y1.1,y2.1,y3.1,y4.1]:=hx;subst hx';rw[B.agg]at hb ⊢;simp only[B.cons,B.nil]at hb ⊢;have f0:_=some y0:=hf 0 (sLoop,0) rfl;have f1:_=some y1:=hf 1 (tAcc,1) rfl;have f2:_=some y2:=hf 2 (tPull,4) rfl;have f3:_=some y3:=hf 3 (tI,13) rfl;have f4:_=some y4:=hf 4 (tPull,14) rfl;simp only[N.c_sLoop,N.c_tAcc,T.c_tI,T.c_tPull]at f0 f1 f2 f3 f4;obtain⟨a0,p0,g0⟩:=(E1 (enc:=enc) (w:=w) (num:=num) (ρ := ρ) B T N n) n (Nat.le_refl _) _ y0.1 y0.2 f0 (by omega);obtain⟨a1,p1,g1⟩:=(LA (enc:=enc) (w:=w) (num:=num) (ρ := ρ) B T N n) n (Nat.le_refl _) _ y1.1 y1.2 f1 (by omega);obtain⟨a2,p2,g2⟩:=(qX (enc:=enc) (w:=w) (num:=num) (ρ := ρ) B T n) n (Nat.le_refl _) _ y2.1 y2.2 f2 (by omega);obtain⟨a3,p3,g3⟩:=(Rd.int (enc:=enc) (w:=w) (num:=num) (ρ := ρ) (b:=b) (N:=n) T.uI) n (Nat.le_refl _) _ y3.1 y3.2 f3 (by omega);obtain⟨a4,p4,g4⟩:=(qX (enc:=enc) (w:=w) (num:=num) (ρ := ρ) B T n) n (Nat.le_refl _) _ y4.1 y4.2 f4 (by omega);refine⟨⟨a0,a1.value,a1.at_,a1.dyn,a2,a3,a4⟩,?_,?_⟩
 rotate_left
 obtain⟨_,ms,m1,m2,m3⟩:=g0;have hl:a0.es.length<=ms.sum:=by rw[m1.length];exact gV m3
 refine⟨g4.1,g2.1,by have:=g4.2;have:=g2.2;show a0.es.length+a4.sz+a2.sz<=_;omega,?_⟩;intro y hy;obtain⟨q,hq⟩:=List.getElem?_of_mem hy;have hq2:a0.es[q]?=some y:=hq;have hql:q<ms.length:=by have:=(bK.1 hq2).1;have:=m1.length;omega
 exact m1.get q y ms[q] hq2 (bX hql);have q:=(p0.piece (p1.piece (p2.piece (p3.piece (p4.piece (aJ.done (by omega)))))))
 rw[List.drop_zero]at q;exact q
end
end
end Go.Tev
section
set_option maxRecDepth 100000
namespace Go.Proofs
open Go.Tev
theorem tyS:TyP Tryz.prog 3 9 4 79 62 138 29 60 23 26 27 33 32 where
 uI:=Tryz.underlying3
 uS:=Tryz.underlying9
 uB:=Tryz.underlying4
 u_tCoef:=⟨_,Tryz.underlying79,by kernel_rfl⟩
 u_tLin:=⟨_,Tryz.underlying62,by kernel_rfl⟩
 u_tStep:=⟨_,Tryz.underlying138,by kernel_rfl⟩
 u_tPull:=⟨_,Tryz.underlying29,by kernel_rfl⟩
 u_sCoef:=Tryz.underlying60
 u_sLin:=Tryz.underlying23
 u_sStep:=Tryz.underlying26
 u_sPull:=Tryz.underlying27
 u_sInt:=Tryz.underlying33
 u_sStr:=Tryz.underlying32
 c_tI:=by kernel_rfl
 c_tS:=by kernel_rfl
 c_tB:=by kernel_rfl
 c_tCoef:=by kernel_rfl
 c_tLin:=by kernel_rfl
 c_tStep:=by kernel_rfl
 c_tPull:=by kernel_rfl
 c_sCoef:=by kernel_rfl
 c_sLin:=by kernel_rfl
 c_sStep:=by kernel_rfl
 c_sPull:=by kernel_rfl
 c_sInt:=by kernel_rfl
 c_sStr:=by kernel_rfl
theorem tyN:TyN Tryz.prog 3 9 4 62 29 23 64 25 31 22 where
 u_tLoop:=⟨_,Tryz.underlying64,by kernel_rfl⟩
 u_tAcc:=⟨_,Tryz.underlying25,by kernel_rfl⟩
 u_tNest:=⟨_,Tryz.underlying31,by kernel_rfl⟩
 u_sLoop:=Tryz.underlying22
 c_tLoop:=by kernel_rfl
 c_tAcc:=by kernel_rfl
 c_tNest:=by kernel_rfl
 c_sLoop:=by kernel_rfl
theorem wP{ρ : Rho}{W:World}{g:Nat}{v:AV}{cs:Array Value}{T:TypeId}{fr:Nat×Nat}(ht:v.tree=true)(hg:W.heap[g]?=some (.cells cs T fr))(h:aJ (Rv nm ρ W noF) v.cells cs.toList) :
  (v.tree=true/\∃c T fr,W.heap[gnum g]?=some (.cells c T fr)/\c.size=v.cells.length)/\Rv nm ρ W noF (.fp v) (.pointer (some ⟨gnum g,0,none⟩)):=by
 have hl:=h.length;have hsz:cs.size=v.cells.length:=by rw[hl];simp
 refine⟨⟨ht,cs,T,fr,hg,hsz⟩,?_⟩;have hlt:g<W.heap.size:=by by_cases hlt:g<W.heap.size;exact hlt;rw[Array.getElem?_eq_none (Nat.le_of_not_lt hlt)]at hg;cases hg
 have hcell:∀n,n<cs.size->W.cell? ⟨g,0+n,none⟩=some (cs[n]?.getD undef):=by intro n hn;simp only[World.cell?,hg,Option.isSome_none,Bool.false_eq_true,if_false,Nat.zero_add];rw[Array.getElem?_eq_getElem hn];rfl
 refine .fp v g 0 (λn=>cs[n]?.getD undef) (λh=>h) hlt (λn hn=>hcell n (by omega)) ?_;intro j x hx;have hj:j<cs.size:=by rw[hsz];exact(List.getElem?_eq_some_iff.1 hx).1
 have h2:=h.get j x (cs[j]'hj) hx (by rw[Array.getElem?_toList,Array.getElem?_eq_getElem hj]);simpa[Array.getElem?_eq_getElem hj] using h2
theorem oB{P:Program}{W:World}{n:String}{g:Nat}{cs:Array Value}(hg:P.globalNamed n=some g)(h:W.var? P n=some cs):∃T fr,W.heap[g]?=some (.cells cs T fr):=by unfold World.var? at h;rw[hg,Option.bind_some]at h;split at h;rename_i c T fr hh;cases h;exact⟨T,fr,hh⟩;cases h
theorem z8{P:Program}{W:World}{fuel:Nat}{t:TypeId}{cs:List Value}{name:String}{d:DataW Unit}{p:List MemPlace}{ms}(ht:P.underlying t=some (.interface ms))
  (h:DataW.trod (λ_=>()) P W 0 (λ_=>true) false fuel t cs=some (.iface name d,p)):∃u v,cs=[.iface u v]:=by
 cases fuel with
 |zero=>simp[DataW.trod]at h
 |succ fuel=>
  unfold DataW.trod at h;rw[ht]at h;split at h<;>first|(rename_i e;cases e;done)|skip
  all_goals first|(exact⟨_,_,rfl⟩)|(cases h;done)|skip
theorem aPy{W:World}(hL:laidMetH Tryz.prog YtagdhpkdbdilaaaGreatDoor.Rows.tileInterchangeUptoRow.laid W):fC nm glS gnum (λ_ _=>none) W noF:=by
 have e:(YtagdhpkdbdilaaaGreatDoor.Rows.tileInterchangeUptoRow.laid.filter λx=>x.2.handleName?.isSome)=[]:=by kernel_rfl
 have h:laidMet Tryz.prog YtagdhpkdbdilaaaGreatDoor.Rows.tileInterchangeUptoRow.laid W:=by unfold laidMetH at hL;rw[e]at hL;exact hL
 obtain⟨ps,hv,_,_⟩:=h;obtain⟨g1,t1,cs1,f1,p1,q1,hg1,ht1,hv1,hd1,hr1,_⟩:=hv;obtain⟨g2,t2,cs2,f2,p2,q2,hg2,ht2,hv2,hd2,hr2,_⟩:=hr1;obtain⟨g3,t3,cs3,f3,p3,q3,hg3,ht3,hv3,hd3,hr3,_⟩:=hr2;obtain⟨g4,t4,cs4,f4,p4,q4,hg4,ht4,hv4,hd4,hr4,_⟩:=hr3;obtain⟨g5,t5,cs5,f5,p5,q5,hg5,ht5,hv5,hd5,hr5,_⟩:=hr4;clear hr5;obtain⟨T3,fr3,hh3⟩:=oB hg3 hv3;obtain⟨T4,fr4,hh4⟩:=oB hg4 hv4;obtain⟨T5,fr5,hh5⟩:=oB hg5 hv5;obtain rfl:2=g3:=Option.some.inj ((show Tryz.prog.globalNamed _=some 2 by kernel_rfl).symm.trans hg3);obtain rfl:1=g4:=Option.some.inj ((show Tryz.prog.globalNamed _=some 1 by kernel_rfl).symm.trans hg4);obtain rfl:0=g5:=Option.some.inj ((show Tryz.prog.globalNamed _=some 0 by kernel_rfl).symm.trans hg5);obtain rfl:229=t3:=Option.some.inj ((show (Tryz.prog.globals[2]?).map (·.type)=some 229 by kernel_rfl).symm.trans ht3);obtain rfl:113=t4:=Option.some.inj ((show (Tryz.prog.globals[1]?).map (·.type)=some 113 by kernel_rfl).symm.trans ht4);obtain rfl:113=t5:=Option.some.inj ((show (Tryz.prog.globals[0]?).map (·.type)=some 113 by kernel_rfl).symm.trans ht5);have hd3':DataW.trod (λ_=>()) Tryz.prog W 0 (λ_=>true) false f3 229 cs3.toList=some (Lib.tabData .u64 Lib.pow10Tab,p3):=hd3;have hcsP:=Lib.cells_of_tab Tryz.underlying229 Tryz.underlying171 (by kernel_rfl) (by kernel_rfl) hd3';obtain⟨uR,vR,hcR⟩:=z8 Tryz.underlying113 hd4;obtain⟨uY,vY,hcY⟩:=z8 Tryz.underlying113 hd5;intro g v hg;unfold glS at hg;cases h1:g.beq 0 with
 |true=>rw[h1]at hg;simp only[cond_true,Option.some.injEq]at hg;subst hg;obtain rfl:=Nat.eq_of_beq_eq_true h1;exact wP (by kernel_rfl) hh5 (by rw[hcY];exact .cons (.ifc _ _ _ (.top _)) .nil)
 |false=>
  cases h2:g.beq 1 with
  |true=>rw[h1,h2]at hg;simp only[cond_true,cond_false,Option.some.injEq]at hg;subst hg;obtain rfl:=Nat.eq_of_beq_eq_true h2;exact wP (by kernel_rfl) hh4 (by rw[hcR];exact .cons (.ifc _ _ _ (.top _)) .nil)
  |false=>
   cases h3:g.beq 2 with
   |true=>
    rw[h1,h2,h3]at hg;simp only[cond_true,cond_false,Option.some.injEq]at hg;subst hg;obtain rfl:=Nat.eq_of_beq_eq_true h3;refine wP (by kernel_rfl) hh3 ?_;rw[hcsP];refine aJ.mk_get (by simp[AV.cells]) ?_;intro i x y hx hy;simp only[AV.cells,List.getElem?_map]at hx hy;cases hz:Lib.pow10Tab[i]? with
    |none=>rw[hz]at hx;cases hx
    |some z=>rw[hz]at hx hy;cases hx;cases hy;exact .int _ _
   |false=>rw[h1,h2,h3]at hg;cases hg
end Go.Proofs
end
