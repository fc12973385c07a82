import Derived.Test.YtdglfamcgppilaaGreatDoorVAI
import Derived.Test.YtdglfamcgppilaaGreatDoorVAM
import Derived.Test.YtdglfamcgppilaaGreatDoorVBF
import Derived.Test.YtdglfamcgppilaaGreatDoorVBG
import Derived.Test.YtdglfamcgppilaaGreatDoorVAX
import Derived.Test.YtdglfamcgppilaaGreatDoorVBA
set_option linter.all false
namespace Go.Tev
section
theorem El.loop(x:Loop):El 5 true x.av:=⟨Loop.fits_av x,by simp only[go_sem,seval],by simp only[go_sem,seval]⟩
theorem El.loops(l:List Loop):∀x∈l.map Loop.av,El 5 true x:=by intro x hx;obtain⟨y,_,rfl⟩:=List.mem_map.1 hx;exact El.loop y
def aNf(α : Type):Sl α:=⟨true,[],true,by simp[big]⟩
def aFS{α : Type}(x : α):Sl α:=⟨false,[x],true,by simp[big]⟩
def aDk(s:Str)(less:Int):Lin:=⟨-less,aFS ⟨s,1⟩⟩
def aGr(i:Nat)(d:Lin):Loop:=⟨LX i,⟨0,aNf bH⟩,aFS d,1⟩
def rA:Nat->List Lin->List Loop
 |_,[]=>[]
 |i,d::r=>aGr i d::rA (i+1) r
def atP:Nat->List Lin->List Lin
 |_,[]=>[]
 |i,_::r=>aDk (LX i) 0::atP (i+1) r
theorem xY:∀(l:List Lin)(i:Nat),(rA i l).length=l.length
 |[],_=>rfl
 |_::r,i=>by rw[rA,List.length_cons,xY r];rfl
theorem M5:∀(l:List Lin)(i:Nat),(atP i l).length=l.length
 |[],_=>rfl
 |_::r,i=>by rw[atP,List.length_cons,M5 r];rfl
structure IZ(n:eC)(v:Int)(ds:List Lin)(p:aA):Prop where
 loops:n.loops.es=rA 0 ds
 at_:n.at_.es=atP 0 ds
 value:n.value=v
 dyn:n.dyn=false
 index:n.index=YL
 check:n.check=0
 body:n.body=p
section
variable{pg:Pg}
end
end
section
section
variable{pg:Pg}{kb:Nat}
end
section
variable{pg:Pg}
end
end
section
def slS{α : Type}(l:List α):Sl α:=if h:l.length<=big then ⟨false,l,false,h⟩ else ⟨false,[],false,by simp[big]⟩
theorem PY{α : Type}{l:List α}(h:l.length<=big):(slS l).es=l:=by rw[slS,dif_pos h]
theorem v6{α : Type}{f : α -> α}{s t:Sl α}(h:s.es.map f=t.es.map f):s.mapS f=t.mapS f:=by obtain⟨a,b,c,d⟩:=s;obtain⟨a',b',c',d'⟩:=t;simp only[Sl.mapS];simp only at h;congr 1
def wrS(v:Int)(ds:List Lin)(p:aA):eC:=(⟨slS (rA 0 ds),v,slS (atP 0 ds),false,YL,0,p⟩:eC).strip
theorem IZ.strip{n:eC}{v:Int}{ds:List Lin}{p:aA}(h:IZ n v ds p)(hd:ds.length<10):n.strip=wrS v ds p:=by
 obtain⟨h1,h2,h3,h4,h5,h6,h7⟩:=h;obtain⟨l,v',a,dy,ix,ch,bo⟩:=n;simp only at h1 h2 h3 h4 h5 h6 h7;subst h3 h4 h5 h6 h7;have hl:(rA 0 ds).length<=big:=by rw[xY];simp only[big];omega
 have ha:(atP 0 ds).length<=big:=by rw[M5];simp only[big];omega
 simp only[wrS,eC.strip];rw[v6 (s:=l) (t:=slS (rA 0 ds)) (by rw[PY hl,h1]),v6 (s:=a) (t:=slS (atP 0 ds)) (by rw[PY ha,h2])]
end
section
section
variable{pg:Pg}
end
end
section
section
variable{pg:Pg}
end
end
section
section
variable{pg:Pg}{kb:Nat}
end
section
variable{pg:Pg}
end
end
end Go.Tev
