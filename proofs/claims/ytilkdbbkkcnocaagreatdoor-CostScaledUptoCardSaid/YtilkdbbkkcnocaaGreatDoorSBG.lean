import Derived.Test.YtilkdbbkkcnocaaGreatDoorSAI
import Derived.Test.YtilkdbbkkcnocaaGreatDoorSAM
import Derived.Test.YtilkdbbkkcnocaaGreatDoorSBE
import Derived.Test.YtilkdbbkkcnocaaGreatDoorSBF
import Derived.Test.YtilkdbbkkcnocaaGreatDoorSAW
import Derived.Test.YtilkdbbkkcnocaaGreatDoorSAZ
set_option linter.all false
namespace Go.Tev
section
theorem El.loop(x:Loop):El 5 true x.av:=⟨Loop.fits_av x,by simp only[go_sem,seval],by simp only[go_sem,seval]⟩
theorem El.loops(l:List Loop):∀x∈l.map Loop.av,El 5 true x:=by intro x hx;obtain⟨y,_,rfl⟩:=List.mem_map.1 hx;exact El.loop y
def MG(α : Type):Sl α:=⟨true,[],true,by simp[big]⟩
def Y1{α : Type}(x : α):Sl α:=⟨false,[x],true,by simp[big]⟩
def aFi(s:Str)(less:Int):Lin:=⟨-less,Y1 ⟨s,1⟩⟩
def aJV(i:Nat)(d:Lin):Loop:=⟨FL i,⟨0,MG aR⟩,Y1 d,1⟩
def sO:Nat->List Lin->List Loop
 |_,[]=>[]
 |i,d::r=>aJV i d::sO (i+1) r
def atP:Nat->List Lin->List Lin
 |_,[]=>[]
 |i,_::r=>aFi (FL i) 0::atP (i+1) r
theorem zT:∀(l:List Lin)(i:Nat),(sO i l).length=l.length
 |[],_=>rfl
 |_::r,i=>by rw[sO,List.length_cons,zT r];rfl
theorem P7:∀(l:List Lin)(i:Nat),(atP i l).length=l.length
 |[],_=>rfl
 |_::r,i=>by rw[atP,List.length_cons,P7 r];rfl
structure LP(n:aZ)(v:Int)(ds:List Lin)(p:aA):Prop where
 loops:n.loops.es=sO 0 ds
 at_:n.at_.es=atP 0 ds
 value:n.value=v
 dyn:n.dyn=false
 index:n.index=lK
 check:n.check=0
 body:n.body=p
section
variable{pg:Pg}
end
end
section
theorem kB:∀(S:List Nat)(h:Hp),∀x∈aI h S,x.k∈S
 |[],h,x,hx=>by simp[aI]at hx
 |k::r,h,x,hx=>by simp only[aI]at hx;split at hx;rcases List.mem_cons.1 hx with rfl|hx;simp;exact bT _ (kB r _ x hx);exact bT _ (kB r _ x hx)
theorem fB{h:Hp}{S:List Nat}{j:Nat}(hj:j ∉ S):(Eff.app h (.pat S (aI h S))).get j=h.get j:=by show (aM h (aI h S)).get j=h.get j;refine mA _ _ (λhm=>?_);obtain⟨x,hx,rfl⟩:=List.mem_map.1 hm;exact hj (kB S h x hx)
theorem Own.snapK{h:Hp}{k0 esz:Nat}{ag:Bool}{v:AV}{es:List AV}(o:Own h k0 esz ag v es)(he:∀x∈es,El esz ag x)(d:Nat):∃nl cl keys,Tev.snap (d+2) h v=some (.sl nl es cl,keys)/\(∀q∈keys,q=k0):=by
 rcases o with ⟨rfl,nl,cl,rfl,hc⟩|⟨e,cs,rfl,hg,hu⟩
 exact⟨nl,cl,[],by rw[fR];rfl,by simp⟩;obtain⟨cs',h1,h2,h3,h4⟩:=bU he;rw[hu]at h1;cases h1;have h5:=h4 [];rw[List.append_nil]at h5;have ht:treeL es=true:=by
  clear h2 h4 h5 hu hg
  induction es with
  |nil=>rfl
  |cons x r ih=>simp only[treeL,aD];exact⟨(he x (by simp)).tree,ih (λy hy=>he y (bT _ hy))⟩
 have h6:mapS (Tev.snap (d+1) h) es=some (es,[]):=dA d h ht;exact⟨false,false,[k0],by rw[fR];simp[hg,h5,h6,AV.tree],by simp⟩
section
variable{pg:Pg}{kb:Nat}
theorem BL{s:Nat}{h:Hp}{v t:AV}{keys:List Nat}{Q:AV->Eff->Prop}{tk:Tok Q}(hs:snap depth h v=some (t,keys))(q:Q t (.pat keys (aI h keys))):XO pg kb .frz s h [v] Q tk:=by
 have e:JN h [v]=some (t,.pat keys (aI h keys)):=by simp[JN,mapS,hs]
 show WO pg kb .frz s h [v] Q;rw[cG rfl];show IY (JN h [v]) Q;rw[e];exact q
end
section
variable{pg:Pg}
end
end
section
def slS{α : Type}(l:List α):Sl α:=if h:l.length<=big then ⟨false,l,false,h⟩ else ⟨false,[],false,by simp[big]⟩
theorem TC{α : Type}{l:List α}(h:l.length<=big):(slS l).es=l:=by rw[slS,dif_pos h]
theorem xP{α : Type}{f : α -> α}{s t:Sl α}(h:s.es.map f=t.es.map f):s.mapS f=t.mapS f:=by obtain⟨a,b,c,d⟩:=s;obtain⟨a',b',c',d'⟩:=t;simp only[Sl.mapS];simp only at h;congr 1
def wrS(v:Int)(ds:List Lin)(p:aA):aZ:=(⟨slS (sO 0 ds),v,slS (atP 0 ds),false,lK,0,p⟩:aZ).strip
theorem LP.strip{n:aZ}{v:Int}{ds:List Lin}{p:aA}(h:LP n v ds p)(hd:ds.length<10):n.strip=wrS v ds p:=by
 obtain⟨h1,h2,h3,h4,h5,h6,h7⟩:=h;obtain⟨l,v',a,dy,ix,ch,bo⟩:=n;simp only at h1 h2 h3 h4 h5 h6 h7;subst h3 h4 h5 h6 h7;have hl:(sO 0 ds).length<=big:=by rw[zT];simp only[big];omega
 have ha:(atP 0 ds).length<=big:=by rw[P7];simp only[big];omega
 simp only[wrS,aZ.strip];rw[xP (s:=l) (t:=slS (sO 0 ds)) (by rw[TC hl,h1]),xP (s:=a) (t:=slS (atP 0 ds)) (by rw[TC ha,h2])]
end
section
section
variable{pg:Pg}
end
end
section
section
variable{pg:Pg}
end
end
section
section
variable{pg:Pg}{kb:Nat}
end
section
variable{pg:Pg}
end
end
end Go.Tev
