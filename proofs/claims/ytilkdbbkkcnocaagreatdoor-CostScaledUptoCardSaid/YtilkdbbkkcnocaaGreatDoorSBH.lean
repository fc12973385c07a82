import Derived.Test.YtilkdbbkkcnocaaGreatDoorSAI
import Derived.Test.YtilkdbbkkcnocaaGreatDoorSAM
import Derived.Test.YtilkdbbkkcnocaaGreatDoorSBG
import Derived.Test.YtilkdbbkkcnocaaGreatDoorSBE
import Derived.Test.YtilkdbbkkcnocaaGreatDoorSAT
import Derived.Test.YtilkdbbkkcnocaaGreatDoorSBD
set_option linter.all false
namespace Go.Tev
section
section
variable{pg:Pg}{kb:Nat}
end
section
variable{pg:Pg}
end
end
section
section
variable{pg:Pg}
end
end
section
theorem Own.cell{h:Hp}{k0 esz:Nat}{ag:Bool}{v:AV}{es:List AV}(o:Own h k0 esz ag v es):v.fits 1 false=true/\v.cells=[v]/\v.one=true:=by rcases o with ⟨_,nl,cl,rfl,_⟩|⟨e,cs,rfl,_,_⟩<;>exact⟨rfl,rfl,rfl⟩
section
variable{pg:Pg}
end
end
section
structure aBX(x:Loop)(size:Int)(name:Str)(o i:Loop):Prop where
 ov:o.v=name
 olo:o.lo=x.lo
 ohi:o.hi.es=x.hi.es
 ost:o.step=size
 onl:o.hi.nl=false
 iv:i.v=x.v
 ilo:i.lo.strip=(aFi name 0).strip
 ihi:∃l:Lin,i.hi.es=x.hi.es++[l]/\l.strip=(aFi name (-size)).strip
 ist:i.step=1
 inl:i.hi.nl=false
theorem aBX.uniq{x:Loop}{size:Int}{name:Str}{o i o' i':Loop}(h:aBX x size name o i)(h':aBX x size name o' i'):o.strip=o'.strip/\i.strip=i'.strip:=by obtain⟨h1,h2,h3,h4,_,h6,h7,⟨l,h8,h8'⟩,h9,_⟩:=h;obtain⟨g1,g2,g3,g4,_,g6,g7,⟨l',g8,g8'⟩,g9,_⟩:=h';constructor;simp only[Loop.strip,h1,g1,h2,g2,h4,g4];rw[xP (s:=o.hi) (t:=o'.hi) (by rw[h3,g3])];simp only[Loop.strip,h6,g6,h7,g7,h9,g9];rw[xP (s:=i.hi) (t:=i'.hi) (by rw[h8,g8,List.map_append,List.map_append,List.map_cons,List.map_cons,h8',g8'])]
def tnB(k:Nat):List UInt8:=[116,UInt8.ofNat (48+k)]
def tn(k:Nat):Str:=⟨tnB k,by simp[tnB,big]⟩
theorem aFk{j k:Nat}(hj:j<10)(hk:k<10)(h:tnB j=tnB k):j=k:=by
 have e:UInt8.ofNat (48+j)=UInt8.ofNat (48+k):=by simpa[tnB] using h
 have e2:=congrArg UInt8.toNat e;simp only[UInt8.toNat_ofNat']at e2;omega
abbrev Pc:=Option Loop×Loop
def pcL(p:Pc):List Loop:=p.1.toList++[p.2]
def aGS(ps:List Pc):List Loop:=ps.flatMap pcL
inductive xI:Nat->List Loop->List Int->List Pc->Prop
 |nil (k:Nat):xI k [] [] []
 |keep {k:Nat} {x:Loop} {r:List Loop} {z:List Int} {ps:List Pc}:xI (k+1) r z ps->xI k (x::r) (0::z) ((none,x)::ps)
 |cut {k:Nat} {x:Loop} {r:List Loop} {s:Int} {z:List Int} {ps:List Pc} {o i:Loop}:s≠0->aBX x s (tn k) o i->xI (k+1) r z ps->xI k (x::r) (s::z) ((some o,i)::ps)
def EO(p:Pc):Pc:=(p.1.map Loop.strip,p.2.strip)
theorem xI.uniq:∀{k:Nat}{ls:List Loop}{z:List Int}{ps qs:List Pc},xI k ls z ps->xI k ls z qs->ps.map EO=qs.map EO:=by
 intro k ls z ps qs h
 induction h generalizing qs with
 |nil=>intro h';cases h';rfl
 |keep _ ih=>
  intro h';cases h' with
  |keep h2=>rw[List.map_cons,List.map_cons,ih h2]
  |cut hs _ _=>exact absurd rfl hs
 |cut hs ht _ ih=>
  intro h';cases h' with
  |keep _=>exact absurd rfl hs
  |cut _ ht' h2=>obtain⟨e1,e2⟩:=ht.uniq ht';rw[List.map_cons,List.map_cons,ih h2];simp[EO,e1,e2]
theorem xI.len{k:Nat}{ls:List Loop}{z:List Int}{ps:List Pc}(h:xI k ls z ps):ps.length=ls.length/\z.length=ls.length:=by
 induction h with
 |nil=>exact⟨rfl,rfl⟩
 |keep _ ih=>simp[ih]
 |cut _ _ _ ih=>simp[ih]
theorem xI.any{k:Nat}{ls:List Loop}{z:List Int}{ps:List Pc}(h:xI k ls z ps){j:Nat}(hj:j<10)(hk:∀i:Nat,k<=i->i<k+ls.length->i≠j)(hz:∀(i:Nat) (s:Int),z[i]?=some s->s≠0->k+i<10) :
  (aGS ps).any (λy=>decide (y.v.bs=tnB j))=ls.any λy=>decide (y.v.bs=tnB j):=by
 induction h with
 |nil=>rfl
 |keep _ ih=>rename_i k x r z ps _;have ih':=ih (λi h1 h2=>hk i (by omega) (by simp;omega)) (λi s h1 h2=>by have:=hz (i+1) s (by simpa using h1) h2;omega);simp only[aGS,List.flatMap_cons,pcL,List.any_append,List.any_cons,List.any_nil,Option.toList]at ih' ⊢;rw[ih'];simp
 |cut hs ht _ ih=>
  rename_i k x r s z ps o i _;have ih':=ih (λi h1 h2=>hk i (by omega) (by simp;omega)) (λi s h1 h2=>by have:=hz (i+1) s (by simpa using h1) h2;omega);have hk0:k<10:=by have:=hz 0 s rfl hs;omega
  have hne:decide (o.v.bs=tnB j)=false:=decide_eq_false λq=>by rw[ht.ov]at q;exact hk k (Nat.le_refl k) (by simp) (aFk hk0 hj q)
  have hiv:decide (i.v.bs=tnB j)=decide (x.v.bs=tnB j):=by rw[ht.iv]
  simp only[aGS,List.flatMap_cons,pcL,List.any_append,List.any_cons,List.any_nil,Option.toList]at ih' ⊢;rw[ih',hne,hiv];simp
end
end Go.Tev
