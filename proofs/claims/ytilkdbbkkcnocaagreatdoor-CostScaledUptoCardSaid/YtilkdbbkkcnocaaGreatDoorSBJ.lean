import Derived.Test.YtilkdbbkkcnocaaGreatDoorSBI
import Derived.Test.YtilkdbbkkcnocaaGreatDoorSAI
import Derived.Test.YtilkdbbkkcnocaaGreatDoorSAM
import Derived.Test.YtilkdbbkkcnocaaGreatDoorSAR
import Derived.Test.YtilkdbbkkcnocaaGreatDoorSAT
set_option linter.all false
namespace Go.Tev
section
section
variable{pg:Pg}
end
end
section
section
variable{pg:Pg}
end
end
section
section
variable{pg:Pg}
end
end
section
section
variable{pg:Pg}{kb:Nat}
def RY(pg:Pg)(k e:Nat)(args:List AV)(h:Hp)(Q:AV->Hp->Prop):Prop:=∃n v h',(aX pg n).yl k e args h=some (v,h')/\Q v h'
theorem QC{s:Nat}{th im:Bool}{h:Hp}{k e:Nat}{args:List AV}{Q:AV->Eff->Prop}{t:Tok Q}(hr:RY pg k e args h (λv h'=>Q v (.whole h'))) :
  XO pg kb (.callv th im) s h (.yl k e::args) Q t:=by
 obtain⟨n,v,h',h1,h2⟩:=hr;exact⟨n,v,.whole h',by simp only[opR,h1],h2⟩
theorem RY.of{k e b:Nat}{env:List AV}{ps:List Nat}{ca cb:C}{args:List AV}{h:Hp}{Q:AV->Hp->Prop}(hg:h.get k=some (e,.lp 0 b env ps ca cb))(hl:ps.length=args.length)
  (hw:XX pg b ca ⟨tL env ps args,h⟩ (λex st1=>ex = .nor/\st1.hp.get k=some (e,.lp 0 b env ps ca cb)/\XX pg b cb ⟨st1.env,st1.hp.put k e (.lp 1 b env ps ca cb)⟩ (λx st2=>st2.hp.get k=some (e,.lp 1 b env ps ca cb)/\Q (.bool (x == .nor)) (st2.hp.put k e (.lp x.code b env ps ca cb))) ⟨⟩) ⟨⟩):RY pg k e args h Q:=by
 obtain⟨n,ex,st1,h1,rfl,h2,m,x,st2,h3,h4,h5⟩:=hw;refine⟨max n m+1,_,_,?_,h5⟩;have e1:=m7 (Nat.le_max_left n m) h1;have e2:=m7 (Nat.le_max_right n m) h3;simp only[aX,pQ,hg,hl,and_self,if_true,e1,h2,e2,h4]
theorem aLL{x:X}{s:Nat}{ps:List Nat}{a b:C}{st:St}{Q:Ex->St->Prop}{t:Tok Q}{f:Nat}{cs:List AV}(hx:x.ev pg.gl st.env = .fn f cs)
  (hr:fD pg f (.yl (kb+s) (st.hp.next (kb+s))::cs) ((kb+s+1)*65536) (st.hp.put (kb+s) (st.hp.next (kb+s)) (.lp 0 kb st.env ps a b))
   (λ_ h'=>∃ex b' env' ps' ca' cb',h'.get (kb+s)=some (st.hp.next (kb+s),.lp (Ex.code ex) b' env' ps' ca' cb')/\Q ex ⟨st.env,h'.put (kb+s) (st.hp.next (kb+s)) .dead⟩)) :
  XX pg kb (.rf x s ps a b) st Q t:=by
 obtain⟨r,h',⟨n,e⟩,ex,b',env',ps',ca',cb',hg,hq⟩:=hr;refine⟨n,ex,_,?_,hq⟩;simp only[bE,hx,e,AM,hg,if_true];cases ex<;>rfl
end
end
section
def chg(h h':Hp):Hp:=h'.filter λx => !qD (h.get x.k) (some (x.e,x.o))
theorem DK:∀l:List (AV×AV),JQ l l=true
 |[]=>rfl
 |x::r=>by simp[JQ,lD,DK r]
theorem AL(o:Option (Nat×Ob)):qD o o=true:=by
 cases o with
 |none=>rfl
 |some p=>obtain⟨e,o⟩:=p;cases o<;>simp[qD,VE,kU,DK]
theorem P8{p:Ent->Bool}:∀{h:Hp}{k e:Nat}{o:Ob},h.all p=true->p ⟨k,e,o⟩=true->(h.put k e o).all p=true
 |[],_,_,_,_,hp=>by simp[Hp.put,hp]
 |x::r,k,e,o,h,hp=>by simp only[List.all_cons,aD]at h;rw[Hp.put];split;simp[h.1,h.2,hp];split;simp[h.2,hp];simp only[List.all_cons,aD];exact⟨h.1,P8 h.2 hp⟩
def cM:Hp->Bool
 |[]=>true
 |x::r=>(r.all λy=>decide (x.k<y.k))&&cM r
theorem bO:∀{h:Hp}{k e:Nat}{o:Ob},cM h=true->cM (h.put k e o)=true
 |[],_,_,_,_=>by simp[Hp.put,cM]
 |x::r,k,e,o,h=>by simp only[cM,aD]at h;rw[Hp.put];split;rename_i hk;simp only[cM,List.all_cons,aD,cK,h.1,h.2,and_true,hk,true_and];rw[eK];intro y hy;have:=eK.1 h.1 y hy;simp only[cK]at this ⊢;omega;rename_i hk;split;rename_i he;subst he;simp only[cM,h.2,Bool.and_true];exact h.1;rename_i he;simp only[cM,aD];exact⟨P8 h.1 (by simp;omega),bO h.2⟩
theorem iG:∀{pa:List Ent}{h:Hp},cM h=true->cM (aM h pa)=true
 |[],_,h=>h
 |x::r,_,h=>iG (pa:=r) (bO h)
theorem BH:∀{h:Hp},cM h=true->gL h=true
 |[],_=>rfl
 |x::r,h=>by simp only[cM,aD]at h;simp only[gL,aD];refine⟨?_,BH h.2⟩;rw[eK];intro y hy;have:=eK.1 h.1 y hy;simp only[cK]at this;simp;omega
theorem oM{p:Ent->Bool}:∀{h:Hp},gL h=true->gL (h.filter p)=true
 |[],_=>rfl
 |x::r,h=>by simp only[gL,aD]at h;rw[List.filter_cons];split;simp only[gL,aD];refine⟨?_,oM h.2⟩;rw[eK];intro y hy;exact eK.1 h.1 y (List.mem_filter.1 hy).1;exact oM h.2
theorem JH{h:Hp}{k:Nat}(hn:∀x∈h,x.k≠k):h.get k=none:=by
 cases hq:h.get k with
 |none=>rfl
 |some p=>obtain⟨x,hx,hk⟩:=qY hq;exact absurd hk (hn x hx)
theorem z8{p:Ent->Bool}:∀{h:Hp}(k:Nat),gL h=true->Hp.get (h.filter p) k=match h.get k with|some (e,o)=>if p ⟨k,e,o⟩ then some (e,o) else none|none=>none
 |[],_,_=>rfl
 |x::r,k,hn=>by
  simp only[gL,aD]at hn;have ih:=z8 (p:=p) (h:=r) k hn.2;rw[List.filter_cons];by_cases hk:x.k=k;subst hk
  have hr:∀y∈r,y.k≠x.k:=λy hy=>by have:=eK.1 hn.1 y hy;simpa using this
  have hx:p ⟨x.k,x.e,x.o⟩=p x:=rfl;cases hp:p x;simp only[Hp.get,if_true,hx,hp];exact JH (λy hy=>hr y (List.mem_filter.1 hy).1);simp[Hp.get,hx,hp];cases hp:p x;simp only[Hp.get,hk,if_false];exact ih;simp only[if_true,Hp.get,hk,if_false];exact ih
theorem PW{h h':Hp}(hn:gL h'=true)(hk:∀q,h.get q≠none->h'.get q≠none)(q:Nat):(aM h (chg h h')).get q=h'.get q:=by
 unfold chg;rw[f9 q (oM hn),z8 q hn];cases hq:h'.get q with
 |none=>
  simp only;cases hh:h.get q with
  |none=>rfl
  |some p=>exact absurd hq (hk q (by rw[hh];simp))
 |some p=>obtain⟨e,o⟩:=p;simp only;cases hc:qD (h.get q) (some (e,o));simp;simp[wV hc]
theorem ZM{h h':Hp}(hn:gL h'=true){q:Nat}(he:h'.get q=h.get q):q ∉ (chg h h').map (·.k):=by
 intro hm;obtain⟨x,hx,rfl⟩:=List.mem_map.1 hm;have hx':=List.mem_filter.1 hx;have hg:h'.get x.k=some (x.e,x.o):=by
  obtain⟨hx1,_⟩:=hx';clear hx hm he
  induction h' with
  |nil=>cases hx1
  |cons y r ih=>
   simp only[gL,aD]at hn;rcases List.mem_cons.1 hx1 with rfl|hx1;simp[Hp.get];have:¬x.k=y.k:=by have:=eK.1 hn.1 x hx1;simpa using this
   have h2:¬y.k=x.k:=λe=>this e.symm;rw[Hp.get,if_neg h2];exact ih hn.2 hx1
 rw[<-he,hg,AL]at hx';simp at hx'
section
variable{pg:Pg}{kb:Nat}
end
end
end Go.Tev
