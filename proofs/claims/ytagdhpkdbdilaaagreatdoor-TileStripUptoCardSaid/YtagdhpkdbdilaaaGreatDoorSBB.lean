import Derived.Test.YtagdhpkdbdilaaaGreatDoorSAI
import Derived.Test.YtagdhpkdbdilaaaGreatDoorSAM
import Derived.Test.YtagdhpkdbdilaaaGreatDoorSAY
import Derived.Test.YtagdhpkdbdilaaaGreatDoorSBA
import Derived.Test.YtagdhpkdbdilaaaGreatDoorSAW
import Derived.Test.YtagdhpkdbdilaaaGreatDoorSAZ
set_option linter.all false
namespace Go.Tev
section
theorem El.loop(x:Loop):El 5 true x.av:=⟨Loop.fits_av x,by simp only[go_sem,seval],by simp only[go_sem,seval]⟩
theorem El.lin(x:Lin):El 2 true x.av:=⟨Lin.fits_av x,by simp only[go_sem,seval],by simp only[go_sem,seval]⟩
theorem El.loops(l:List Loop):∀x∈l.map Loop.av,El 5 true x:=by intro x hx;obtain⟨y,_,rfl⟩:=List.mem_map.1 hx;exact El.loop y
theorem El.lins(l:List Lin):∀x∈l.map Lin.av,El 2 true x:=by intro x hx;obtain⟨y,_,rfl⟩:=List.mem_map.1 hx;exact El.lin y
def aIf(α : Type):Sl α:=⟨true,[],true,by simp[big]⟩
def sC{α : Type}(x : α):Sl α:=⟨false,[x],true,by simp[big]⟩
def fD(s:Str)(less:Int):Lin:=⟨-less,sC ⟨s,1⟩⟩
def aSe(i:Nat)(d:Lin):Loop:=⟨G4 i,⟨0,aIf aN⟩,sC d,1⟩
def oN:Nat->List Lin->List Loop
 |_,[]=>[]
 |i,d::r=>aSe i d::oN (i+1) r
def atP:Nat->List Lin->List Lin
 |_,[]=>[]
 |i,_::r=>fD (G4 i) 0::atP (i+1) r
theorem uM:∀(l:List Lin)(i:Nat),(oN i l).length=l.length
 |[],_=>rfl
 |_::r,i=>by rw[oN,List.length_cons,uM r];rfl
theorem HG:∀(l:List Lin)(i:Nat),(atP i l).length=l.length
 |[],_=>rfl
 |_::r,i=>by rw[atP,List.length_cons,HG r];rfl
structure EJ(n:aK)(v:Int)(ds:List Lin)(p:aE):Prop where
 loops:n.loops.es=oN 0 ds
 at_:n.at_.es=atP 0 ds
 value:n.value=v
 dyn:n.dyn=false
 index:n.index=kD
 check:n.check=0
 body:n.body=p
section
variable{pg:Pg}
end
end
section
theorem lU:∀(S:List Nat)(h:Hp),∀x∈bF h S,x.k∈S
 |[],h,x,hx=>by simp[bF]at hx
 |k::r,h,x,hx=>by simp only[bF]at hx;split at hx;rcases List.mem_cons.1 hx with rfl|hx;simp;exact bS _ (lU r _ x hx);exact bS _ (lU r _ x hx)
theorem Own.snapK{h:Hp}{k0 esz:Nat}{ag:Bool}{v:AV}{es:List AV}(o:Own h k0 esz ag v es)(he:∀x∈es,El esz ag x)(d:Nat):∃nl cl keys,Tev.snap (d+2) h v=some (.sl nl es cl,keys)/\(∀q∈keys,q=k0):=by
 rcases o with ⟨rfl,nl,cl,rfl,hc⟩|⟨e,cs,rfl,hg,hu⟩
 exact⟨nl,cl,[],by rw[l7];rfl,by simp⟩;obtain⟨cs',h1,h2,h3,h4⟩:=bE he;rw[hu]at h1;cases h1;have h5:=h4 [];rw[List.append_nil]at h5;have ht:treeL es=true:=by
  clear h2 h4 h5 hu hg
  induction es with
  |nil=>rfl
  |cons x r ih=>simp only[treeL,aF];exact⟨(he x (by simp)).tree,ih (λy hy=>he y (bS _ hy))⟩
 have h6:mapS (Tev.snap (d+1) h) es=some (es,[]):=cX d h ht;exact⟨false,false,[k0],by rw[l7];simp[hg,h5,h6,AV.tree],by simp⟩
section
variable{pg:Pg}{kb:Nat}
end
section
variable{pg:Pg}
end
end
section
def slS{α : Type}(l:List α):Sl α:=if h:l.length<=big then ⟨false,l,false,h⟩ else ⟨false,[],false,by simp[big]⟩
theorem KC{α : Type}{l:List α}(h:l.length<=big):(slS l).es=l:=by rw[slS,dif_pos h]
theorem pF{α : Type}{f : α -> α}{s t:Sl α}(h:s.es.map f=t.es.map f):s.mapS f=t.mapS f:=by obtain⟨a,b,c,d⟩:=s;obtain⟨a',b',c',d'⟩:=t;simp only[Sl.mapS];simp only at h;congr 1
def wrS(v:Int)(ds:List Lin)(p:aE):aK:=(⟨slS (oN 0 ds),v,slS (atP 0 ds),false,kD,0,p⟩:aK).strip
theorem EJ.strip{n:aK}{v:Int}{ds:List Lin}{p:aE}(h:EJ n v ds p)(hd:ds.length<10):n.strip=wrS v ds p:=by
 obtain⟨h1,h2,h3,h4,h5,h6,h7⟩:=h;obtain⟨l,v',a,dy,ix,ch,bo⟩:=n;simp only at h1 h2 h3 h4 h5 h6 h7;subst h3 h4 h5 h6 h7;have hl:(oN 0 ds).length<=big:=by rw[uM];simp only[big];omega
 have ha:(atP 0 ds).length<=big:=by rw[HG];simp only[big];omega
 simp only[wrS,aK.strip];rw[pF (s:=l) (t:=slS (oN 0 ds)) (by rw[KC hl,h1]),pF (s:=a) (t:=slS (atP 0 ds)) (by rw[KC ha,h2])]
end
section
section
variable{pg:Pg}
end
end
section
theorem okP(op:Str)(num value:Int)(name:Str)(a:Sl Lin)(d:Bool)(c:Int)(f:Sl aJ)(n:Bool)(kids:List aE)(cl:Bool):(aE.mk op num value name a d c f n kids cl).ok↔kids.length<=big/\∀q∈kids,q.ok:=aE.ok_iff _
theorem oY:kD.ok:=by rw[kD,okP];simp
section
variable{pg:Pg}
end
end
section
section
variable{pg:Pg}
end
end
section
section
variable{pg:Pg}{kb:Nat}
theorem TS{esz bytes s:Nat}{ag:Bool}{h:Hp}{v:AV}{es xs:List AV}{nl cl:Bool}{Q:AV->Eff->Prop}{t:Tok Q}(o:Own h (kb+s) esz ag v es)(he:∀x∈es,El esz ag x)(hx:∀x∈xs,El esz ag x)(hxs:xs≠[])
  (hl:es.length+xs.length<=1073741824) (hb:bytes<=65536)
  (q:∀v' e ob,Own (h.put (kb+s) e ob) (kb+s) esz ag v' (es++xs)->Q v' (.pat [kb+s] [⟨kb+s,e,ob⟩])) :
  XO pg kb (.app esz ag bytes) s h [v,.sl nl xs cl] Q t:=by
 rw[kY];obtain⟨ds,d1,d2,d3,_⟩:=bE hx;simp only[lH,bI,d1,Option.map_some];have hn:xs.length≠0:=by simpa using hxs
 rcases o with ⟨rfl,nl',cl',rfl,hc⟩|⟨e,cs,rfl,hg,hu⟩
 simp only[fM,hn,if_false,hc,List.length_nil,Nat.zero_add,Bool.true_and];have hlx:xs.length<=1073741824:=by simpa using hl
 simp only[hlx,hb,decide_true,Bool.and_self,if_true,aP,List.nil_append];refine q _ _ _ (.inr ⟨_,ds,rfl,?_,by simpa using d1⟩);rw[aI,if_pos rfl];obtain⟨cs',c1,c2,_,_⟩:=bE he;rw[hu]at c1;cases c1;have h1:¬(es.length+xs.length<=es.length):=by omega
 simp only[fM,hg,hn,if_false,true_and,Nat.zero_add];rw[if_pos (by omega)];simp only[h1,if_false,hl,hb,decide_true,Bool.true_and,beq_self_eq_true,Bool.not_true,Bool.and_false,Bool.false_eq_true,Bool.not_false,if_true];refine q _ _ _ (.inr ⟨e+1,cs++ds,by simp,?_,cG hu d1⟩);rw[aI,if_pos rfl];simp[<-c2]
end
section
variable{pg:Pg}
theorem c582(hf:pg.fs 582=some yA)(n:Int):Ret pg 582 [.int .i64 n] (.agg [.int .i64 n,.sl true [] true]):=by refine Ret.ofX hf ?_;unfold yA;simp only[go_sem,seval]
theorem c599(hf:pg.fs 599=some x8)(s:Str):Ret pg 599 [.str s.bs] (fD s 0).av:=by
 refine Ret.ofX hf ?_;unfold x8;simp only[go_sem,seval]
 first|rfl|simp[fD,sC,Lin.avc,aN.avc]
theorem El.coefs(l:List aN):∀x∈l.map aN.av,El 2 true x:=by intro y hy;obtain⟨z,_,rfl⟩:=List.mem_map.1 hy;exact⟨aN.fits_av z,by simp only[go_sem,seval],by simp only[go_sem,seval]⟩
end
end
end Go.Tev
