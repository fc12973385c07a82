import Derived.Test.YtdegpppbhhjlhaaGreatDoorCAI
import Derived.Test.YtdegpppbhhjlhaaGreatDoorCAM
import Derived.Test.YtdegpppbhhjlhaaGreatDoorCBE
import Derived.Test.YtdegpppbhhjlhaaGreatDoorCBF
import Derived.Test.YtdegpppbhhjlhaaGreatDoorCAW
import Derived.Test.YtdegpppbhhjlhaaGreatDoorCAZ
set_option linter.all false
namespace Go.Tev
section
theorem El.loop(x:Loop):El 5 true x.av:=⟨Loop.fits_av x,by simp only[go_sem,seval],by simp only[go_sem,seval]⟩
theorem El.loops(l:List Loop):∀x∈l.map Loop.av,El 5 true x:=by intro x hx;obtain⟨y,_,rfl⟩:=List.mem_map.1 hx;exact El.loop y
def aPG(α : Type):Sl α:=⟨true,[],true,by simp[big]⟩
def aIn{α : Type}(x : α):Sl α:=⟨false,[x],true,by simp[big]⟩
def aEP(s:Str)(less:Int):Lin:=⟨-less,aIn ⟨s,1⟩⟩
def aJo(i:Nat)(d:Lin):Loop:=⟨FG i,⟨0,aPG bE⟩,aIn d,1⟩
def sQ:Nat->List Lin->List Loop
 |_,[]=>[]
 |i,d::r=>aJo i d::sQ (i+1) r
def atP:Nat->List Lin->List Lin
 |_,[]=>[]
 |i,_::r=>aEP (FG i) 0::atP (i+1) r
theorem zV:∀(l:List Lin)(i:Nat),(sQ i l).length=l.length
 |[],_=>rfl
 |_::r,i=>by rw[sQ,List.length_cons,zV r];rfl
theorem P0:∀(l:List Lin)(i:Nat),(atP i l).length=l.length
 |[],_=>rfl
 |_::r,i=>by rw[atP,List.length_cons,P0 r];rfl
structure LP(n:eH)(v:Int)(ds:List Lin)(p:aA):Prop where
 loops:n.loops.es=sQ 0 ds
 at_:n.at_.es=atP 0 ds
 value:n.value=v
 dyn:n.dyn=false
 index:n.index=SJ
 check:n.check=0
 body:n.body=p
section
variable{pg:Pg}
end
end
section
theorem oX:∀(S:List Nat)(h:Hp),∀x∈aU h S,x.k∈S
 |[],h,x,hx=>by simp[aU]at hx
 |k::r,h,x,hx=>by simp only[aU]at hx;split at hx;rcases List.mem_cons.1 hx with rfl|hx;simp;exact cE _ (oX r _ x hx);exact cE _ (oX r _ x hx)
theorem AF{h:Hp}{S:List Nat}{j:Nat}(hj:j ∉ S):(Eff.app h (.pat S (aU h S))).get j=h.get j:=by show (aJ h (aU h S)).get j=h.get j;refine mN _ _ (λhm=>?_);obtain⟨x,hx,rfl⟩:=List.mem_map.1 hm;exact hj (oX S h x hx)
theorem Own.snapK{h:Hp}{k0 esz:Nat}{ag:Bool}{v:AV}{es:List AV}(o:Own h k0 esz ag v es)(he:∀x∈es,El esz ag x)(d:Nat):∃nl cl keys,Tev.snap (d+2) h v=some (.sl nl es cl,keys)/\(∀q∈keys,q=k0):=by
 rcases o with ⟨rfl,nl,cl,rfl,hc⟩|⟨e,cs,rfl,hg,hu⟩
 exact⟨nl,cl,[],by rw[pF];rfl,by simp⟩;obtain⟨cs',h1,h2,h3,h4⟩:=cG he;rw[hu]at h1;cases h1;have h5:=h4 [];rw[List.append_nil]at h5;have ht:treeL es=true:=by
  clear h2 h4 h5 hu hg
  induction es with
  |nil=>rfl
  |cons x r ih=>simp only[treeL,aD];exact⟨(he x (by simp)).tree,ih (λy hy=>he y (cE _ hy))⟩
 have h6:mapS (Tev.snap (d+1) h) es=some (es,[]):=eK d h ht;exact⟨false,false,[k0],by rw[pF];simp[hg,h5,h6,AV.tree],by simp⟩
section
variable{pg:Pg}{kb:Nat}
theorem WM{s:Nat}{h:Hp}{v t:AV}{keys:List Nat}{Q:AV->Eff->Prop}{tk:Tok Q}(hs:snap depth h v=some (t,keys))(q:Q t (.pat keys (aU h keys))):XO pg kb .frz s h [v] Q tk:=by
 have e:JK h [v]=some (t,.pat keys (aU h keys)):=by simp[JK,mapS,hs]
 show WO pg kb .frz s h [v] Q;rw[cQ rfl];show IV (JK h [v]) Q;rw[e];exact q
end
section
variable{pg:Pg}
end
end
section
def slS{α : Type}(l:List α):Sl α:=if h:l.length<=big then ⟨false,l,false,h⟩ else ⟨false,[],false,by simp[big]⟩
theorem SX{α : Type}{l:List α}(h:l.length<=big):(slS l).es=l:=by rw[slS,dif_pos h]
theorem xY{α : Type}{f : α -> α}{s t:Sl α}(h:s.es.map f=t.es.map f):s.mapS f=t.mapS f:=by obtain⟨a,b,c,d⟩:=s;obtain⟨a',b',c',d'⟩:=t;simp only[Sl.mapS];simp only at h;congr 1
def wrS(v:Int)(ds:List Lin)(p:aA):eH:=(⟨slS (sQ 0 ds),v,slS (atP 0 ds),false,SJ,0,p⟩:eH).strip
theorem LP.strip{n:eH}{v:Int}{ds:List Lin}{p:aA}(h:LP n v ds p)(hd:ds.length<10):n.strip=wrS v ds p:=by
 obtain⟨h1,h2,h3,h4,h5,h6,h7⟩:=h;obtain⟨l,v',a,dy,ix,ch,bo⟩:=n;simp only at h1 h2 h3 h4 h5 h6 h7;subst h3 h4 h5 h6 h7;have hl:(sQ 0 ds).length<=big:=by rw[zV];simp only[big];omega
 have ha:(atP 0 ds).length<=big:=by rw[P0];simp only[big];omega
 simp only[wrS,eH.strip];rw[xY (s:=l) (t:=slS (sQ 0 ds)) (by rw[SX hl,h1]),xY (s:=a) (t:=slS (atP 0 ds)) (by rw[SX ha,h2])]
end
section
section
variable{pg:Pg}
end
end
section
section
variable{pg:Pg}
end
end
section
section
variable{pg:Pg}{kb:Nat}
end
section
variable{pg:Pg}
end
end
end Go.Tev
