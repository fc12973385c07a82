import Derived.Test.YtmcadllokkmeiaaGreatDoorMAT
set_option linter.all false
section
namespace Go.Tev
def nH(x:Int):List Int->List Int
 |[]=>[x]
 |y::r=>if decide (y<x) then y::nH x r else if decide (y=x) then y::r else x::y::r
theorem z6{x a:Int}:∀l:List Int,a∈nH x l↔a=x\/a∈l
 |[]=>by simp[nH]
 |y::r=>by
  simp only[nH]
  split
  ·simp only[List.mem_cons,z6 r]
   constructor<;>(intro h;rcases h with h|h|h<;>simp[h])
  ·split
   ·rename_i h;simp at h;subst h;simp
   ·simp
theorem zQ(x:Int):∀l:List Int,(nH x l).length<=l.length+1
 |[]=>by simp[nH]
 |y::r=>by
  have:=zQ x r
  simp only[nH]
  split
  ·simp;omega
  ·split<;>simp
def IsL(l:List Int)(r:AV):Prop:=(∃nl cl,r = .sl nl (l.map aH) cl)\/r = .os (l.map aH) 1 false
theorem IsL.of{l:List Int}{r:AV}(h:kV 1 false (l.map aH) r):IsL l r:=by
 rcases h with ⟨he,nl,cl,rfl,_⟩|h
 ·exact .inl ⟨nl,cl,by rw[he]⟩
 ·exact .inr h
section
variable{pg:Pg}
theorem CC(l:List Int):(l.map aH).all (fun v=>v.cells.length==1)=true:=by
 rw[List.all_eq_true]
 intro x hx
 obtain⟨y,_,rfl⟩:=List.mem_map.1 hx
 rfl
theorem zC(nl cl:Bool)(d rest:List Int):∃c,∀h,mN h 1 true false false [.sl nl ((d++rest).map aH) cl,.int .i64 (d.length:Int)]=some (.sl nl (rest.map aH) c,.pat [] []):=by
 refine⟨(nl||cl)&&true,fun h=>?_⟩
 simp only[mN,fN,iU,Bool.false_eq_true,if_false,if_true,Option.getD_none,Option.getD_some,CC,Option.isSome_none]
 rw[if_pos ⟨by omega,by simp only[List.length_map,List.length_append];omega,by omega,by omega,trivial⟩]
 have e:((d++rest).map aH).drop (d.length:Int).toNat=rest.map aH:=by
  rw[Int.toNat_natCast,List.map_append,List.drop_left' (by simp)]
 rw[e,List.take_of_length_le (by simp only[List.length_map,List.length_append];omega)]
 simp[val]
attribute [local go_sem] Nat.left_eq_add Nat.add_eq_left
end
end Go.Tev
end
section
namespace Go.Tev
def nK(acc l:List Int):List Int:=l.foldl (fun a x=>nH x a) acc
mutual
def jG:aC->List Int
 |.mk op _ value _ _ _ _ _ _ kids _=>j1 (if decide (op.bs=[114,101,97,100]) then nH value [] else []) kids
def j1:List Int->List aC->List Int
 |acc,[]=>acc
 |acc,p::r=>j1 (nK acc (jG p)) r
end
theorem v6:∀(l acc:List Int),(nK acc l).length<=acc.length+l.length
 |[],acc=>by simp[nK]
 |x::r,acc=>by
  have h1:=v6 r (nH x acc)
  have h2:=zQ x acc
  simp only[nK,List.foldl_cons,List.length_cons]at *
  omega
theorem wG{a:Int}:∀(l acc:List Int),a∈nK acc l↔a∈acc\/a∈l
 |[],acc=>by simp[nK]
 |x::r,acc=>by
  have h1:=wG (a:=a) r (nH x acc)
  simp only[nK,List.foldl_cons]at *
  rw[h1,z6,List.mem_cons]
  constructor
  ·rintro((h|h)|h)<;>simp[h]
  ·rintro(h|h|h)<;>simp[h]
mutual
theorem BO:∀p:aC,(jG p).length<=p.sz
 |.mk op _ value _ _ _ _ _ _ kids _=>by
  have h:=rG kids (if decide (op.bs=[114,101,97,100]) then nH value [] else [])
  rw[jG,aC.sz]
  split at h<;>simp_all [nH]<;>omega
theorem rG:∀(l:List aC)(acc:List Int),(j1 acc l).length<=acc.length+aC.szL l
 |[],acc=>by simp[j1]
 |p::r,acc=>by
  have h1:=BO p
  have h2:=rG r (nK acc (jG p))
  have h3:=v6 (jG p) acc
  simp only[j1,aC.szL]at *
  omega
end
mutual
theorem B1(a:Int):∀p:aC,a∈jG p↔a∈cE p
 |.mk op _ value _ _ _ _ _ _ kids _=>by
  have h:=rK a kids (if decide (op.bs=[114,101,97,100]) then nH value [] else [])
  rw[jG,cE,h,List.mem_append]
  cases decide (op.bs=[114,101,97,100])<;>simp[nH]
theorem rK(a:Int):∀(l:List aC)(acc:List Int),a∈j1 acc l↔a∈acc\/a∈eB l
 |[],acc=>by simp[j1,eB]
 |p::r,acc=>by
  have h1:=B1 a p
  have h2:=rK a r (nK acc (jG p))
  rw[j1,h2,wG,h1,eB,List.mem_append,or_assoc]
end
def P4(q:aE):List Int:=
 if decide (q.kind=3) then
  (let l:=nK (jG q.body) (jG q.index)
   if decide (q.source=q.value) then l else nH q.source l)
 else jG q.body
section
variable{pg:Pg}
end
end Go.Tev
end
section
namespace Go.Tev
section
variable{pg:Pg}
end
end Go.Tev
end
section
namespace Go.Tev
section
variable{pg:Pg}
end
end Go.Tev
end
section
namespace Go.Tev
section
variable{pg:Pg}
end
end Go.Tev
end
section
namespace Go.Tev
end Go.Tev
end
section
namespace Go.Tev
theorem mF{α : Type}{es d r:List α}{x : α}(hes:es=d++x::r)(hb:es.length<=big) :
  es[d.length]?=some x/\decide ((d.length:Int)<(es.length:Int))=true/\((d.length:Int)<(es.length:Int))=True/\wr .i64 ((d.length:Int)+1)=((d++[x]).length:Int):=by
 have h:d.length<es.length:=by rw[hes];simp
 refine⟨by rw[hes];simp,by simp;omega,eq_true (by omega),aQ (r:=r) (by rw[<-hes];exact hb)⟩
theorem n9(n:Nat):decide ((n:Int)<(n:Int))=false:=by simp
theorem Q6{α β : Type}{q : α -> β -> Bool}{es d r:List α}{x : α}{es':List β}(hes:es=d++x::r)(hl:es.length=es'.length) :
  ∃y,es'[d.length]?=some y/\decide ((d.length:Int)<(es'.length:Int))=true/\((d.length:Int)<(es'.length:Int))=True/\eqL q (x::r) (es'.drop d.length)=(q x y&&eqL q r (es'.drop (d++[x]).length)):=by
 have h:d.length<es'.length:=by rw[<-hl,hes];simp
 refine⟨es'[d.length],List.getElem?_eq_getElem h,by simp;omega,eq_true (by omega),?_⟩
 rw[List.drop_eq_getElem_cons h,eqL]
 simp
theorem E3{α β : Type}{q : α -> β -> Bool}{es:List α}{es':List β}(hl:es.length=es'.length):eqL q [] (es'.drop es.length)=true:=by
 rw[hl,List.drop_length];simp[eqL]
theorem N5{α β : Type}{q : α -> β -> Bool}{a:List α}{b:List β}(h:decide ((a.length:Int)=(b.length:Int))=false):eqL q a b=false:=by
 cases he:eqL q a b
 ·rfl
 ·have:=sK he
  simp[this]at h
section
variable{pg:Pg}
end
end Go.Tev
end
