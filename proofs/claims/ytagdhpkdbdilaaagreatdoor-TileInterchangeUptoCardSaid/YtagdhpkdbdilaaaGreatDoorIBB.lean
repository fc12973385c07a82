import Derived.Test.YtagdhpkdbdilaaaGreatDoorIAI
import Derived.Test.YtagdhpkdbdilaaaGreatDoorIAM
import Derived.Test.YtagdhpkdbdilaaaGreatDoorIAY
import Derived.Test.YtagdhpkdbdilaaaGreatDoorIBA
import Derived.Test.YtagdhpkdbdilaaaGreatDoorIAW
import Derived.Test.YtagdhpkdbdilaaaGreatDoorIAZ
set_option linter.all false
namespace Go.Tev
section
theorem El.loop(x:Loop):El 5 true x.av:=⟨Loop.fits_av x,by simp only[go_sem,seval],by simp only[go_sem,seval]⟩
theorem El.lin(x:Lin):El 2 true x.av:=⟨Lin.fits_av x,by simp only[go_sem,seval],by simp only[go_sem,seval]⟩
theorem El.loops(l:List Loop):∀x∈l.map Loop.av,El 5 true x:=by intro x hx;obtain⟨y,_,rfl⟩:=List.mem_map.1 hx;exact El.loop y
theorem El.lins(l:List Lin):∀x∈l.map Lin.av,El 2 true x:=by intro x hx;obtain⟨y,_,rfl⟩:=List.mem_map.1 hx;exact El.lin y
def aFm(α : Type):Sl α:=⟨true,[],true,by simp[big]⟩
def aHm{α : Type}(x : α):Sl α:=⟨false,[x],true,by simp[big]⟩
def aQq(s:Str)(less:Int):Lin:=⟨-less,aHm ⟨s,1⟩⟩
def aPo(i:Nat)(d:Lin):Loop:=⟨D3 i,⟨0,aFm aW⟩,aHm d,1⟩
def mX:Nat->List Lin->List Loop
 |_,[]=>[]
 |i,d::r=>aPo i d::mX (i+1) r
def atP:Nat->List Lin->List Lin
 |_,[]=>[]
 |i,_::r=>aQq (D3 i) 0::atP (i+1) r
theorem rW:∀(l:List Lin)(i:Nat),(mX i l).length=l.length
 |[],_=>rfl
 |_::r,i=>by rw[mX,List.length_cons,rW r];rfl
theorem ED:∀(l:List Lin)(i:Nat),(atP i l).length=l.length
 |[],_=>rfl
 |_::r,i=>by rw[atP,List.length_cons,ED r];rfl
structure BK(n:aV)(v:Int)(ds:List Lin)(p:aE):Prop where
 loops:n.loops.es=mX 0 ds
 at_:n.at_.es=atP 0 ds
 value:n.value=v
 dyn:n.dyn=false
 index:n.index=jH
 check:n.check=0
 body:n.body=p
section
variable{pg:Pg}
end
end
section
theorem kQ:∀(S:List Nat)(h:Hp),∀x∈bC h S,x.k∈S
 |[],h,x,hx=>by simp[bC]at hx
 |k::r,h,x,hx=>by simp only[bC]at hx;split at hx;rcases List.mem_cons.1 hx with rfl|hx;simp;exact bR _ (kQ r _ x hx);exact bR _ (kQ r _ x hx)
section
variable{pg:Pg}{kb:Nat}
end
section
variable{pg:Pg}
end
end
section
def slS{α : Type}(l:List α):Sl α:=if h:l.length<=big then ⟨false,l,false,h⟩ else ⟨false,[],false,by simp[big]⟩
theorem GR{α : Type}{l:List α}(h:l.length<=big):(slS l).es=l:=by rw[slS,dif_pos h]
theorem D2{α : Type}{f : α -> α}{s t:Sl α}(h:s.es.map f=t.es.map f):s.mapS f=t.mapS f:=by obtain⟨a,b,c,d⟩:=s;obtain⟨a',b',c',d'⟩:=t;simp only[Sl.mapS];simp only at h;congr 1
def wrS(v:Int)(ds:List Lin)(p:aE):aV:=(⟨slS (mX 0 ds),v,slS (atP 0 ds),false,jH,0,p⟩:aV).strip
theorem BK.strip{n:aV}{v:Int}{ds:List Lin}{p:aE}(h:BK n v ds p)(hd:ds.length<10):n.strip=wrS v ds p:=by
 obtain⟨h1,h2,h3,h4,h5,h6,h7⟩:=h;obtain⟨l,v',a,dy,ix,ch,bo⟩:=n;simp only at h1 h2 h3 h4 h5 h6 h7;subst h3 h4 h5 h6 h7;have hl:(mX 0 ds).length<=big:=by rw[rW];simp only[big];omega
 have ha:(atP 0 ds).length<=big:=by rw[ED];simp only[big];omega
 simp only[wrS,aV.strip];rw[D2 (s:=l) (t:=slS (mX 0 ds)) (by rw[GR hl,h1]),D2 (s:=a) (t:=slS (atP 0 ds)) (by rw[GR ha,h2])]
end
section
section
variable{pg:Pg}
end
end
section
theorem okP(op:Str)(num value:Int)(name:Str)(a:Sl Lin)(d:Bool)(c:Int)(f:Sl aI)(n:Bool)(kids:List aE)(cl:Bool):(aE.mk op num value name a d c f n kids cl).ok↔kids.length<=big/\∀q∈kids,q.ok:=aE.ok_iff _
theorem yM:jH.ok:=by rw[jH,okP];simp
section
variable{pg:Pg}
end
end
section
section
variable{pg:Pg}
end
end
section
section
variable{pg:Pg}{kb:Nat}
end
section
variable{pg:Pg}
end
end
end Go.Tev
