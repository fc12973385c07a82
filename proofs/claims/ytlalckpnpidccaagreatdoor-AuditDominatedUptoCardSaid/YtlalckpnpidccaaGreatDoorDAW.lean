import Derived.Test.YtlalckpnpidccaaGreatDoorDAU
import Derived.Test.YtlalckpnpidccaaGreatDoorDAV
import Derived.Test.YtlalckpnpidccaaGreatDoorDAR
import Derived.Test.YtlalckpnpidccaaGreatDoorDAT
import Derived.ChangeArms
set_option linter.all false
namespace Go.Tev
section
section
variable{pg:Pg}
end
end
section
def V7:List AV:=(List.range 256).map λi => .bool (decide (48<=i)&&decide (i<=57))
theorem JD(c:UInt8):V7[c.toNat]?=some (.bool (bO c)):=by have h:=UInt8.toNat_lt c;simp only[V7,List.getElem?_map];rw[List.getElem?_range h];rfl
section
variable{pg:Pg}
theorem c171(hf:pg.fs 171=some DH)(c:UInt8):Ret pg 171 [.fp (.agg V7),.int .u8 c.toNat] (.bool (bO c)):=by have h:=UInt8.toNat_lt c;have e1:(0<=(c.toNat:Int))=True:=eq_true (by omega);have e2:((c.toNat:Int)<((256:Nat):Int))=True:=eq_true (by omega);have e3:((c.toNat:Int)<256)=True:=eq_true (by omega);refine Ret.ofX hf ?_;unfold DH;have hg:=JD c;simp only[e1,e2,e3,Nat.mul_one,hg,go_sem,seval]
end
end
section
section
variable{pg:Pg}
end
end
section
structure sJ{H:Type}(b:DataW H->Nat)(bs:List (DataW H)->Nat):Prop where
 nil:bs []=0
 cons:∀x r,bs (x::r)=b x+bs r
 sl:∀e s,b (.slice e s)=bs e+bs s+1
 agg:∀p,b (.agg p)=bs p+1
 str:∀s,b (.lit (.string s))=s.length+1
 one:∀d,1<=b d
theorem sJ.sum{H:Type}{b:DataW H->Nat}{bs:List (DataW H)->Nat}(B:sJ b bs):∀l,bs l=(l.map b).sum
 |[]=>by simp[B.nil]
 |x::r=>by rw[B.cons,B.sum r];simp
theorem US{l:List Nat}:∀{i:Nat}{m:Nat},l[i]?=some m->m<=l.sum:=by
 induction l with
 |nil=>intro i m h;simp at h
 |cons x r ih=>
  intro i m h;cases i with
  |zero=>simp at h;subst h;simp
  |succ i=>have:=ih (by simpa using h);simp;omega
theorem lJ:∀{l:List Nat},(∀m∈l,1<=m)->l.length<=l.sum
 |[],_=>by simp
 |x::r,h=>by have h1:=h x (by simp);have h2:=lJ (l:=r) (λm hm=>h m (bJ _ hm));simp;omega
theorem oY{α : Type}{Pr:Nat -> α -> Prop}:∀n,(∀i,i<n->∃x,Pr i x)->∃l:List α,l.length=n/\∀i x,l[i]?=some x->Pr i x
 |0,_=>⟨[],rfl,λi x h=>by simp at h⟩
 |n+1,h=>by
  obtain⟨l,h1,h2⟩:=oY n (λi hi=>h i (by omega));obtain⟨x,hx⟩:=h n (by omega);refine⟨l++[x],by simp[h1],λi y hy=>?_⟩;by_cases hi:i<l.length;rw[List.getElem?_append_left hi]at hy;exact h2 i y hy;rw[pU (by omega)]at hy;have:i-l.length=0:=by rcases Nat.eq_zero_or_pos (i-l.length) with q|q;exact q;rw[bR (by simp;omega)]at hy;cases hy
  rw[this]at hy;simp at hy;subst hy;have:i=n:=by omega
  subst this;exact hx
theorem aJ.app{α β : Type}{R : α -> β -> Prop}{a b:List α}{c d:List β}(h1:aJ R a c)(h2:aJ R b d):aJ R (a++b) (c++d):=by
 induction h1 with
 |nil=>exact h2
 |cons h _ ih=>exact .cons h ih
theorem aJ.mk_get{α β : Type}{R : α -> β -> Prop}:∀{l:List α}{m:List β},l.length=m.length->(∀(i:Nat)(x : α)(y : β),l[i]?=some x->m[i]?=some y->R x y)->aJ R l m
 |[],[],_,_ => .nil
 |x::r,y::s,hl,h => .cons (h 0 x y rfl rfl) (aJ.mk_get (by simpa using hl) (λi a b ha hb=>h (i+1) a b (by simpa using ha) (by simpa using hb)))
 |[],_::_,hl,_=>by simp at hl
 |_::_,[],hl,_=>by simp at hl
theorem aJ.piece{α β : Type}{R : α -> β -> Prop}{a b:List α}{cs:List β}{o n:Nat}(h1:aJ R a ((cs.drop o).take n))(h2:aJ R b (cs.drop (o+n))):aJ R (a++b) (cs.drop o):=by have:=h1.app h2;rwa [<-List.drop_drop,List.take_append_drop]at this
theorem aJ.done{α β : Type}{R : α -> β -> Prop}{cs:List β}{o:Nat}(h:cs.length=o):aJ R [] (cs.drop o):=by subst h;simp;exact .nil
section
variable{H:Type}{enc:TypeId×Value->H}{P:Program}{w:World}{num:Nm}{ρ : Rho}{b:DataW H->Nat}{bs:List (DataW H)->Nat}
def noF(_:Nat):Prop:=False
def Rd(enc:TypeId×Value->H)(P:Program)(w:World)(num:Nm)(ρ : Rho)(b:DataW H->Nat)(N:Nat)(t:TypeId){α : Type}(cells : α -> List AV)(good : α -> Nat->Prop):Prop:=
 ∀fuel,fuel<=N->∀cs d ps,DataW.trod enc P w 0 (λ_=>true) true fuel t cs=some (d,ps)->b d<=1048576->∃x : α,aJ (Rv num ρ w noF) (cells x) cs/\good x (b d)
theorem Rd.int{N:Nat}{t:TypeId}(ht:P.underlying t=some (.int .i64)):Rd enc P w num ρ b N t (λn:Int=>[aZ n]) (λ_ _=>True):=by intro fuel hN cs d ps h _;obtain⟨n,rfl,_,_⟩:=DataW.trod_int ht h;exact⟨n,.cons (.int _ _) .nil,trivial⟩
theorem Rd.bool{N:Nat}{t:TypeId}(ht:P.underlying t=some .bool):Rd enc P w num ρ b N t (λn:Bool=>[.bool n]) (λ_ _=>True):=by intro fuel hN cs d ps h _;obtain⟨n,rfl,_⟩:=DataW.trod_bool ht h;exact⟨n,.cons (.bool _) .nil,trivial⟩
theorem Rd.str{N:Nat}(B:sJ b bs){t:TypeId}(ht:P.underlying t=some .string):Rd enc P w num ρ b N t (λs:Str=>[Str.av s]) (λ_ _=>True):=by
 intro fuel hN cs d ps h hb;obtain⟨s,rfl,hx,_⟩:=DataW.trod_string ht h;cases hx;rw[B.str]at hb;have hl:s.data.toList.length<=big:=by simp only[big];omega
 refine⟨⟨s.data.toList,hl⟩,.cons ?_ .nil,trivial⟩;exact Rv.str (num:=num) (ρ := ρ) (w:=w) (F:=noF) s.data.toList
theorem AC{a:Addr}{n:Nat}{cs:List Value}(h:w.cells? 0 a n=some cs):cs.length=n/\∀j,j<n->w.cell? (a.add j)=cs[j]?:=by
 simp only[World.cells?,Nat.zero_le,if_true]at h
 have hl:∀(l:List Nat)(r:List Value),(l.mapM λi=>w.cell? (a.add i))=some r->r.length=l.length/\∀(j k:Nat),l[j]?=some k->w.cell? (a.add k)=r[j]?:=by
  intro l
  induction l with
  |nil=>intro r hr;simp at hr;subst hr;exact⟨rfl,λj k hk=>by simp at hk⟩
  |cons x l ih=>
   intro r hr;simp only[List.mapM_cons,Option.bind_eq_bind,Option.bind_eq_some_iff,Option.pure_def,aK]at hr;obtain⟨v,hv,r',hr',rfl⟩:=hr;obtain⟨i1,i2⟩:=ih r' hr';refine⟨by simp[i1],?_⟩;intro j k hk;cases j with
   |zero=>simp at hk;subst hk;simpa using hv
   |succ j=>simpa using i2 j k (by simpa using hk)
 obtain⟨h1,h2⟩:=hl _ _ h;rw[List.length_range]at h1;exact⟨h1,λj hj=>h2 j j (by rw[List.getElem?_range hj])⟩
theorem u3(a:Addr):a.add 0=a:=by simp[Addr.add]
theorem AI(b off n:Nat):(Addr.add ⟨b,off,none⟩ n)=⟨b,off+n,none⟩:=by unfold Addr.add;split;rename_i h0;simp[h0];rfl
theorem Rd.slice{N:Nat}(B:sJ b bs){t e:TypeId}{sz:Nat}{α : Type}{cells : α -> List AV}{good : α -> Nat->Prop}(enc1 : α -> AV)(ht:P.underlying t=some (.slice e))(hce:P.cellsOf e=sz)(hsz:0<sz)
  (hcells:∀x,(enc1 x).cells=cells x) (hlen:∀x,(cells x).length=sz) (he:Rd enc P w num ρ b N e cells good) :
  Rd enc P w num ρ b (N+1) t (λs:Sl α => [s.av enc1]) (λs n=>(s.nl=true->s.es=[])/\∃ms:List Nat,aJ good s.es ms/\ms.sum+1<=n/\∀m∈ms,1<=m):=by
 intro fuel hN cs d ps h hb;rcases DataW.trod_slice ht h with ⟨rfl,hx⟩|⟨a,len,cap,elems,rest,n,hfn,rfl,hx,_,hlc,hcm,hel,hes,_,_⟩
 cases hx;exact⟨⟨true,[],false,by simp⟩,.cons (.nsl _) .nil,λ_=>rfl,[],.nil,by simpa using B.one _,by simp⟩;cases hx;rw[B.sl,B.sum,B.sum]at hb ⊢;rw[hce]at hes;have hel':elems.length=len:=hel
 have key:∀i,i<len->∃x : α,∃cs',w.cells? 0 (a.add (i*sz)) sz=some cs'/\aJ (Rv num ρ w noF) (cells x) cs'/\good x ((elems.map λy=>b y.1).getD i 0):=by
  intro i hi;have h1:=hes i hi;rw[aY (by omega),Option.bind_eq_some_iff]at h1;obtain⟨cs',h2,h3⟩:=h1;have hm:((elems.map (·.1)).map b)[i]?=some (b (elems[i]'(by omega)).1):=by simp[aY (show i<elems.length by omega)]
  have hle:=US hm;obtain⟨x,h4,h5⟩:=he n (by omega) cs' (elems[i]'(by omega)).1 (elems[i]'(by omega)).2 h3 (by omega);refine⟨x,cs',h2,h4,?_⟩;rw[List.getD_eq_getElem?_getD];simpa[aY (show i<elems.length by omega)] using h5
 obtain⟨es,hesl,hese⟩:=oY len key;have hbig:es.length<=big:=by
  have h1:((elems.map (·.1)).map b).length<=((elems.map (·.1)).map b).sum:=lJ (λm hm=>by
   obtain⟨d,_,rfl⟩:=List.mem_map.1 hm;exact B.one d)
  simp only[aE]at h1;simp only[big];omega
 refine⟨⟨false,es,false,hbig⟩,.cons ?_ .nil,(by intro h;cases h),(elems.map λy=>b y.1),?_,?_,?_⟩;have hne:es≠[]->a.spot=none:=by
  intro h0;have hl0:0<len:=by rw[<-hesl];exact List.length_pos_iff.2 h0
  obtain⟨x,cs',h1,_,_⟩:=key 0 hl0;obtain⟨c1,c2⟩:=AC h1;have:=c2 0 hsz;rw[Nat.zero_mul,u3,u3,aY (by omega)]at this;simp only[World.cell?]at this;split at this;cases hs:a.spot with
  |none=>rfl
  |some v=>rw[hs]at this;simp at this
  cases this
 obtain⟨ab,ao,asp⟩:=a;have hcell:∀(i:Nat)(x : α),es[i]?=some x->∃cs',cs'.length=sz/\aJ (Rv num ρ w noF) (cells x) cs'/\∀j,j<sz->w.cell? ⟨ab,ao+(i*sz+j),none⟩=cs'[j]?:=by
  intro i x hx;obtain⟨cs',h1,h2,_⟩:=hese i x hx;have hn0:es≠[]:=by intro h;subst h;simp at hx
  have hsp:=hne hn0;simp only at hsp;subst hsp;obtain⟨c1,c2⟩:=AC h1;refine⟨cs',c1,h2,λj hj=>?_⟩;have:=c2 j hj;rw[AI,AI,Nat.add_assoc]at this;exact this
 have hmap:∀(i:Nat)(e':AV),(es.map enc1)[i]?=some e'->∃x : α,es[i]?=some x/\e'=enc1 x:=by intro i e' h;rw[List.getElem?_map,fX]at h;obtain⟨x,h1,h2⟩:=h;exact⟨x,h1,h2.symm⟩
 have hv:(Value.slice (some ⟨ab,ao,asp⟩) len cap) = .slice (some ⟨ab,ao,asp⟩) (es.map enc1).length cap:=by rw[aE,hesl]
 simp only[Sl.av];rw[hv];refine .sl (es.map enc1) false ab ao cap sz (λk=>(w.cell? ⟨ab,ao+k,none⟩).getD undef) (by rw[aE,hesl];exact hlc) (by intro h;cases h) ?_ ?_ ?_ ?_ asp ?_;intro h0;refine⟨λh=>h,?_⟩;obtain⟨e',r,hr⟩:=List.exists_cons_of_ne_nil h0;obtain⟨x,hx,_⟩:=hmap 0 e' (by rw[hr];rfl);obtain⟨cs',c1,_,c3⟩:=hcell 0 x hx;have h3:=c3 0 hsz;rw[aY (by omega)]at h3;by_cases hlt:ab<w.heap.size;exact hlt;simp[World.cell?,Array.getElem?_eq_none (Nat.le_of_not_lt hlt)]at h3;intro i e' h;obtain⟨x,_,rfl⟩:=hmap i e' h;rw[hcells,hlen];intro k hk;rw[aE]at hk;have hi:k / sz<es.length:=Nat.div_lt_of_lt_mul (by rw[Nat.mul_comm];exact hk);obtain⟨cs',c1,_,c3⟩:=hcell (k / sz) _ (aY hi);have hm:k % sz<sz:=Nat.mod_lt _ hsz;have h3:=c3 (k % sz) hm;have e1:k / sz*sz+k % sz=k:=by rw[Nat.mul_comm];exact Nat.div_add_mod k sz
 rw[e1,aY (by omega)]at h3;rw[h3];rfl;intro i e' j y h hy;obtain⟨x,hx,rfl⟩:=hmap i e' h;obtain⟨cs',c1,c2,c3⟩:=hcell i x hx;rw[hcells]at hy;have hj:j<sz:=by have:=(bX.1 hy).1;rw[hlen]at this;exact this
 rw[c3 j hj,aY (by omega)];exact c2.get j y _ hy (aY (by omega));intro h0;refine hne ?_;intro h;subst h;simp at h0;refine aJ.mk_get (by rw[hesl,aE,hel']) ?_;intro i x m hx hm;obtain⟨_,_,_,hg⟩:=hese i x hx;rw[List.getD_eq_getElem?_getD,hm]at hg;exact hg;have:(elems.map λy=>b y.1)=(elems.map (·.1)).map b:=by simp
 rw[this];omega;intro m hm;obtain⟨y,_,rfl⟩:=List.mem_map.1 hm;exact B.one _
theorem Rd.mono{N M:Nat}{t:TypeId}{α : Type}{cells : α -> List AV}{good : α -> Nat->Prop}(h:Rd enc P w num ρ b N t cells good)(hM:M<=N):Rd enc P w num ρ b M t cells good:=
 λfuel hf=>h fuel (by omega)
theorem yA{t:TypeId}{fs:Array Field}{L:List (TypeId×Nat)}{fuel:Nat}{cs:List Value}{x:DataW H×List MemPlace}(ht:P.underlying t=some (.struct fs))(hL:fs.toList.map (λf=>(f.type,f.offset))=L)
  (h:DataW.trod enc P w 0 (λ_=>true) true fuel t cs=some x) :
  ∃(xs:List (DataW H×List MemPlace))(n:Nat),fuel=n+1/\x.1 = .agg (xs.map (·.1))/\cs.length=P.cellsOf t/\xs.length=L.length /\
   ∀(i:Nat)(p:TypeId×Nat),L[i]?=some p->DataW.trod enc P w 0 (λ_=>true) true n p.1 ((cs.drop p.2).take (P.cellsOf p.1))=xs[i]?:=by
 obtain⟨xs,n,h0,rfl,h1,h2,h3⟩:=DataW.trod_struct ht h;subst hL;refine⟨xs,n,h0,rfl,h1,by simpa using h2,?_⟩;intro i p hp;rw[List.getElem?_map,fX]at hp;obtain⟨f,hf,rfl⟩:=hp;exact h3 i f (by simpa using hf)
end
end
section
def lX(x:Int):List Int->List Int
 |[]=>[x]
 |y::r=>if decide (y<x) then y::lX x r else if decide (y=x) then y::r else x::y::r
theorem y6{x a:Int}:∀l:List Int,a∈lX x l↔a=x\/a∈l
 |[]=>by simp[lX]
 |y::r=>by
  simp only[lX];split;simp only[List.mem_cons,y6 r];constructor<;>(intro h;rcases h with h|h|h<;>simp[h])
  split;rename_i h;simp at h;subst h;simp;simp
theorem yP(x:Int):∀l:List Int,(lX x l).length<=l.length+1
 |[]=>by simp[lX]
 |y::r=>by have:=yP x r;simp only[lX];split;simp;omega;split<;>simp
def IsL(l:List Int)(r:AV):Prop:=(∃nl cl,r = .sl nl (l.map aZ) cl)\/r = .os (l.map aZ) 1 false
theorem IsL.of{l:List Int}{r:AV}(h:x7 1 false (l.map aZ) r):IsL l r:=by rcases h with ⟨he,nl,cl,rfl,_⟩|h;exact .inl ⟨nl,cl,by rw[he]⟩;exact .inr h
section
variable{pg:Pg}
attribute [local go_sem] Nat.left_eq_add Nat.add_eq_left
end
end
section
def mS(acc l:List Int):List Int:=l.foldl (λa x=>lX x a) acc
mutual
def kA:aF->List Int
 |.mk op _ value _ _ _ _ _ _ kids _=>iM (if decide (op.bs=[114,101,97,100]) then lX value [] else []) kids
def iM:List Int->List aF->List Int
 |acc,[]=>acc
 |acc,p::r=>iM (mS acc (kA p)) r
end
theorem s7:∀(l acc:List Int),(mS acc l).length<=acc.length+l.length
 |[],acc=>by simp[mS]
 |x::r,acc=>by have h1:=s7 r (lX x acc);have h2:=yP x acc;simp only[mS,List.foldl_cons,List.length_cons]at *;omega
theorem tF{a:Int}:∀(l acc:List Int),a∈mS acc l↔a∈acc\/a∈l
 |[],acc=>by simp[mS]
 |x::r,acc=>by have h1:=tF (a:=a) r (lX x acc);simp only[mS,List.foldl_cons]at *;rw[h1,y6,List.mem_cons];constructor;rintro((h|h)|h)<;>simp[h];rintro(h|h|h)<;>simp[h]
mutual
theorem A3:∀p:aF,(kA p).length<=p.sz
 |.mk op _ value _ _ _ _ _ _ kids _=>by have h:=oM kids (if decide (op.bs=[114,101,97,100]) then lX value [] else []);rw[kA,aF.sz];split at h<;>simp_all [lX]<;>omega
theorem oM:∀(l:List aF)(acc:List Int),(iM acc l).length<=acc.length+aF.szL l
 |[],acc=>by simp[iM]
 |p::r,acc=>by have h1:=A3 p;have h2:=oM r (mS acc (kA p));have h3:=s7 (kA p) acc;simp only[iM,aF.szL]at *;omega
end
mutual
theorem A9(a:Int):∀p:aF,a∈kA p↔a∈g8 p
 |.mk op _ value _ _ _ _ _ _ kids _=>by have h:=oS a kids (if decide (op.bs=[114,101,97,100]) then lX value [] else []);rw[kA,g8,h,fK];cases decide (op.bs=[114,101,97,100])<;>simp[lX]
theorem oS(a:Int):∀(l:List aF)(acc:List Int),a∈iM acc l↔a∈acc\/a∈gP l
 |[],acc=>by simp[iM,gP]
 |p::r,acc=>by have h1:=A9 a p;have h2:=oS a r (mS acc (kA p));rw[iM,h2,tF,h1,gP,fK,or_assoc]
end
section
variable{pg:Pg}
end
end
section
section
variable{pg:Pg}
theorem c114(hf:pg.fs 114=some uV)(c:UInt8):Ret pg 114 [.int .u8 (c.toNat:Int)] (.bool (bO c)):=by
 refine Ret.ofX hf ?_;unfold uV;cases b1:decide (48<=(c.toNat:Int));simp only[b1,go_sem,seval];have:¬ 48<=c.toNat:=by have:=cF b1;omega
 simp[bO,this];simp only[b1,go_sem,seval];have:48<=c.toNat:=by have:=bU b1;omega
 simp only[bO,this,decide_true,Bool.true_and];rw[u4];omega
theorem c115(hf:pg.fs 115=some uT)(c:UInt8):Ret pg 115 [.int .u8 (c.toNat:Int)] (.bool (cL c)):=by
 refine Ret.ofX hf ?_;unfold uT;cases b1:decide (97<=(c.toNat:Int));simp only[b1,go_sem,seval];have:¬ 97<=c.toNat:=by have:=cF b1;omega
 simp[cL,this];simp only[b1,go_sem,seval];have:97<=c.toNat:=by have:=bU b1;omega
 simp only[cL,this,decide_true,Bool.true_and];rw[u4];omega
theorem c77(hf:pg.fs 77=some IW)(h114:pg.fs 114=some uV)(h115:pg.fs 115=some uT)(s:List UInt8)(hb:s.length<=big):Ret pg 77 [.str s] (.bool (cJ s)):=by
 refine Ret.ofX hf ?_;unfold IW;cases b0:decide ((s.length:Int)=0)
 case true=>have:s=[]:=eD (by have:=bU b0;omega);simp only[b0,go_sem,seval];subst this;rfl
 case false=>
 obtain⟨c,t,hs⟩:∃c t,s=c::t:=by
  cases s with
  |nil=>simp at b0
  |cons c t=>exact⟨c,t,rfl⟩
 have hg0:s[0]?=some c:=by rw[hs];rfl
 have hlt:s.length=t.length+1:=by rw[hs];rfl
 have hnu:cJ s=(decide (s.length<=30)&&(if c=95 then decide (2<=s.length)&&decide (s.length<=10) && !decide (t.head?=some 48)&&t.all bO else cL c&&t.all (λx=>cL x||bO x))):=by rw[hs];rfl
 cases b1:decide (30<(s.length:Int))
 case true=>
  simp only[b0,b1,go_sem,seval];have:¬s.length<=30:=by have:=bU b1;omega
  simp[hnu,this]
 case false=>
 have h30:s.length<=30:=by have:=cF b1;omega
 have hd30:decide (s.length<=30)=true:=decide_eq_true h30;rw[hnu,hd30,Bool.true_and];clear hnu;simp only[b0,b1,hg0,go_sem,seval];have hi0:∀(d:List UInt8)(x:UInt8)(r:List UInt8),s=d++x::r->s[d.length]?=some x/\decide ((d.length:Int)<(s.length:Int))=true/\wr .i64 ((d.length:Int)+1)=((d++[x]).length:Int):=by intro d x r he;refine⟨by rw[he];simp,by rw[he];simp;omega,?_⟩;exact bI (r:=r) (by rw[<-he];exact hb)
 cases b2:decide ((c.toNat:Int)=95)
 case true=>
  have hc:c=95:=by have h:=bU b2;exact UInt8.toNat_inj.1 (by simpa using (show c.toNat=95 by omega))
  rw[if_pos hc];cases b3:decide ((s.length:Int)<2)
  case true=>
   have:¬ 2<=s.length:=by have:=bU b3;omega
   simp only[b3,go_sem,seval];simp[this]
  case false=>
  have h2:2<=s.length:=by have:=cF b3;omega
  cases b4:decide (10<(s.length:Int))
  case true=>
   have:¬s.length<=10:=by have:=bU b4;omega
   simp only[b3,b4,go_sem,seval];simp[this]
  case false=>
  have h10:s.length<=10:=by have:=cF b4;omega
  obtain⟨d,u,ht⟩:∃d u,t=d::u:=by
   cases t with
   |nil=>simp at hlt;omega
   |cons d u=>exact⟨d,u,rfl⟩
  have hg1:s[1]?=some d:=by rw[hs,ht];rfl
  have hhd:t.head?=some d:=by rw[ht];rfl
  cases b5:decide ((d.toNat:Int)=48)
  case true=>
   have hd:d=48:=by have h:=bU b5;exact UInt8.toNat_inj.1 (by simpa using (show d.toNat=48 by omega))
   simp only[b3,b4,hg1,b5,go_sem,seval];simp[hhd,hd]
  case false=>
  have hd:¬d=48:=by intro h;subst h;exact absurd rfl (cF b5)
  have hres:(decide (2<=s.length)&&decide (s.length<=10) && !decide (t.head?=some 48)&&t.all bO)=t.all bO:=by simp[h2,h10,hhd,hd]
  rw[hres];simp only[b3,b4,hg1,b5,go_sem,seval];refine bD t (λe r env hp=>env=B3 (.str s) (.int .i64 ((e.length+1:Nat):Int))/\t.all bO=r.all bO) ?_ ?_ ?_;exact⟨rfl,rfl⟩;rintro env hp ⟨rfl,hI⟩;have hex:decide (((t.length+1:Nat):Int)<(s.length:Int))=false:=by simp;omega
  simp only[B1,B3,hex,go_sem,seval];rw[hI];rfl;rintro e x r env hp he ⟨rfl,hI⟩;have hse:s=(c::e)++x::r:=by rw[hs,he];rfl
  obtain⟨k1,k2,k3⟩:=hi0 _ _ _ hse;have k0:(c::e).length=e.length+1:=rfl;have k4:((c::e)++[x]).length=(e++[x]).length+1:=by simp
  rw[k0]at k1 k2 k3;rw[k4]at k3;simp only[B1,B3,k1,k2,go_sem,seval];refine bQ (c114 h114 x) rfl rfl ?_;cases hx:bO x;simp only[hx,go_sem,seval];rw[hI];simp[hx];simp only[hx,k3,go_sem,seval];refine⟨rfl,?_⟩;rw[hI];simp[hx]
 case false=>
  have hc:¬c=95:=by intro h;subst h;exact absurd rfl (cF b2)
  rw[if_neg hc];simp only[b2,go_sem,seval];refine bD s (λe r env hp=>env=B2 (.str s) (.int .i64 e.length)/\(e=[]\/(cL c&&t.all (λx=>cL x||bO x))=r.all (λx=>cL x||bO x))) ?_ ?_ ?_;exact⟨rfl,.inl rfl⟩;rintro env hp ⟨rfl,hI⟩;have hex:decide ((s.length:Int)<(s.length:Int))=false:=by simp
  simp only[BZ,B2,hex,go_sem,seval];rcases hI with h|h;exact absurd h (by rw[hs];simp);rw[h];rfl
  ·rintro e x r env hp he ⟨rfl,hI⟩;obtain⟨k1,k2,k3⟩:=hi0 _ _ _ he
   have hI2:(cL c&&t.all (λx=>cL x||bO x))=((if e=[] then cL x else (cL x||bO x))&&r.all (λx=>cL x||bO x)):=by
    rcases hI with h|h;subst h;rw[hs]at he;simp only[List.nil_append,List.cons.injEq]at he;obtain⟨rfl,rfl⟩:=he;simp;by_cases h0:e=[]
    subst h0;rw[hs]at he;simp only[List.nil_append,List.cons.injEq]at he;obtain⟨rfl,rfl⟩:=he;simp;rw[h,if_neg h0];simp
   rw[hI2];clear hI hI2;simp only[BZ,B2,k1,k2,go_sem,seval];refine bQ (c115 h115 x) rfl rfl ?_;cases hx:cL x
   case true=>simp only[hx,k3,go_sem,seval];refine⟨rfl,.inr ?_⟩;split<;>simp
   case false=>
   by_cases h0:e=[]
   have h1:decide ((e.length:Int)=0)=true:=by simp[h0]
   simp only[hx,h1,go_sem,seval];simp[h0];have h1:decide ((e.length:Int)=0)=false:=by simp[h0]
   simp only[hx,h1,k1,go_sem,seval];refine bQ (c114 h114 x) rfl rfl ?_;cases hy:bO x;simp only[hx,hy,go_sem,seval];simp[h0];simp only[hx,hy,k3,go_sem,seval];refine⟨rfl,.inr ?_⟩;simp[h0]
end
end
end Go.Tev
