import Derived.Test.YtilkdbbkkcnocaaGreatDoorSAW
import Derived.Test.YtilkdbbkkcnocaaGreatDoorSBB
import Derived.Test.YtilkdbbkkcnocaaGreatDoorSAI
import Derived.Test.YtilkdbbkkcnocaaGreatDoorSAM
import Derived.Test.YtilkdbbkkcnocaaGreatDoorSAY
import Derived.Test.YtilkdbbkkcnocaaGreatDoorSAR
set_option linter.all false
namespace Go.Tev
section
section
variable{pg:Pg}
end
end
section
def yM(n:Int):Int:=wr .i64 (wr .i32 n)
def oI(b:Bool):Int:=if b then 1 else 0
def U7(a b:Int):Int:=if b=0 then 0 else if a.tmod b=0 then wr .i64 (a.tdiv b) else if decide (a<0)=decide (b<0) then wr .i64 (a.tdiv b) else wr .i64 (wr .i64 (a.tdiv b)-1)
private theorem bft:(false==true)=false:=rfl
private theorem btf:(true==false)=false:=rfl
section
variable{pg:Pg}
end
end
section
def aQh(op:List UInt8)(a:Int):Int:=
 bif decide (op=[110,101,103]) then yM (wr .i64 (0-a)) else
 bif decide (op=[97,98,115]) then (if a<0 then yM (wr .i64 (0-a)) else a) else
 bif decide (op=[115,105,103,110]) then wr .i64 (oI (decide (0<a))-oI (decide (a<0))) else
 bif decide (op=[110,111,116]) then wr .i64 (1-a) else
 a
def aLV(op:List UInt8)(a b:Int):Int:=
 bif decide (op=[97,100,100]) then yM (wr .i64 (a+b)) else
 bif decide (op=[115,117,98]) then yM (wr .i64 (a-b)) else
 bif decide (op=[109,117,108]) then yM (wr .i64 (a*b)) else
 bif decide (op=[100,105,118]) then yM (U7 a b) else
 bif decide (op=[109,111,100]) then (if b=0 then 0 else wr .i64 (a-wr .i64 (b*U7 a b))) else
 bif decide (op=[109,105,110]) then (if b<a then b else a) else
 bif decide (op=[109,97,120]) then (if a<b then b else a) else
 bif decide (op=[108,116]) then oI (decide (a<b)) else
 bif decide (op=[108,101]) then oI (decide (a<=b)) else
 bif decide (op=[103,116]) then oI (decide (b<a)) else
 bif decide (op=[103,101]) then oI (decide (b<=a)) else
 bif decide (op=[101,113]) then oI (decide (a=b)) else
 bif decide (op=[110,101]) then oI (!decide (a=b)) else
 bif decide (op=[120,111,114]) then oI (!decide (a=b)) else
 bif decide (op=[97,110,100]) then wr .i64 (a*b) else
 (if a<b then b else a)
section
variable{pg:Pg}
end
end
section
def aKE(x:Int)(p:List UInt8):Bool:=bif decide (p=[98,111,111,108]) then lS x else iT x
def W8(op:List UInt8)(xs:List Int):Bool:=
 match fE op with
 |none=>false
 |some p=>eqL aKE xs p.params
def W7(op:List UInt8):List Int->Int
 |[a]=>aQh op a
 |[a,b]=>aLV op a b
 |a::b::c::_=>bif decide (a=1) then b else c
 |[]=>0
section
variable{pg:Pg}
end
end
section
section
variable{pg:Pg}
end
end
section
section
variable{pg:Pg}
end
end
section
def aCf(l:List Int)(ix:List Int):List Int:=ix.map λi=>l[i.toNat]?.getD 0
section
variable{pg:Pg}
end
end
section
def aCo(s:aE):Bool:=decide (s.op.bs=[99,111,110,115,116])||decide (s.op.bs=[116,114,117,116,104])
def YJ:List Int->List aE->Option (List Int)
 |l,[]=>some l
 |l,s::r=>bif aCo s then YJ (l++[s.num]) r else bif W8 s.op.bs (aCf l s.args.es) then YJ (l++[W7 s.op.bs (aCf l s.args.es)]) r else none
def aKb(l:List Int):Int:=l.getLast?.getD 0
def aMb(fn:List aE)(xs:List Int):Bool:=cR fn xs.length&&(xs.all iT&&(YJ xs fn).isSome)
def aMa(fn:List aE)(xs:List Int):Int:=aKb ((YJ xs fn).getD [])
def Gr(h:Hp)(k:Nat)(v:AV)(es:List Int):Prop:=
 (∃nl cl,v = .sl nl (es.map aV) cl/\(nl||cl)=true)\/(∃e,v = .rf k e 0 es.length es.length/\h.get k=some (e,.blk (es.map aV) 1 false false false))
theorem AU:∀(es:List Int)(tl:List AV),jS 1 false es.length (es.map aV++tl)=some (es.map aV)
 |[],_=>rfl
 |x::r,tl=>by simp only[List.length_cons,jS,List.map_cons,List.cons_append,Bool.false_eq_true,if_false,aV,AV.isAgg];rw[AU r tl];rfl
theorem Gr.snap{h:Hp}{k:Nat}{v:AV}{es:List Int}(g:Gr h k v es):∃nl cl keys,Tev.snap depth h v=some (.sl nl (es.map aV) cl,keys)/\(keys=[]\/keys=[k]):=by
 rcases g with ⟨nl,cl,rfl,_⟩|⟨e,rfl,hg⟩
 refine⟨nl,cl,[],?_,.inl rfl⟩;have ht:(AV.sl nl (es.map aV) cl).tree=true:=by simp only[AV.tree,sS]
 show Tev.snap (63+1) h _=_;unfold Tev.snap;rw[if_pos ht];refine⟨false,false&&es.length==es.length,[k],?_,.inr rfl⟩;show Tev.snap (63+1) h _=_;have hc:jS 1 false es.length (es.map aV)=some (es.map aV):=by simpa using AU es []
 unfold Tev.snap;simp only[AV.tree,Bool.false_eq_true,if_false,hg,if_true,List.drop_zero,hc,dA 62 h (sS es),Option.map_some]
theorem Gr.mono{h h':Hp}{k:Nat}{v:AV}{es:List Int}(g:Gr h k v es)(hk:h'.get k=h.get k):Gr h' k v es:=by
 rcases g with g|⟨e,rfl,hg⟩
 exact .inl g;exact .inr ⟨e,rfl,hk.trans hg⟩
section
variable{pg:Pg}{kb:Nat}
end
section
variable{pg:Pg}
end
end
section
theorem Gr.at{h:Hp}{k:Nat}{v:AV}{es:List Int}{i x:Int}(g:Gr h k v es)(h0:0<=i)(hx:es[i.toNat]?=some x) :
  ∃p rd,uG 1 false none [v,.int .i64 i]=some (p,.pat [] [])/\vK h 1 false [p]=some (.int .i64 x,.pat rd []):=by
 have hlt:i<(es.length:Int):=by have:=(cF.1 hx).1;omega
 rcases g with ⟨nl,cl,rfl,_⟩|⟨e,rfl,hg⟩
 refine⟨.fp (.int .i64 x),[],?_,rfl⟩;simp only[uG,if_pos h0,List.getElem?_map,hx,Option.map_some,aV,AV.fits,Bool.not_false,Bool.true_and,beq_self_eq_true,if_true];rfl;refine⟨.pt k e (0+i.toNat*1),[k],?_,?_⟩;simp only[uG,if_pos (And.intro h0 hlt)];rfl;simp only[vK,hg,if_true,eY,Nat.zero_add,Nat.mul_one,Bool.false_eq_true,if_false,List.getElem?_map,hx,Option.map_some,aV]
theorem Gr.flen{h:Hp}{k:Nat}{v:AV}{es:List Int}(g:Gr h k v es)(h':Hp):oC h' 1 [v]=some (.int .i64 es.length,.pat [] []):=by
 rcases g with ⟨nl,cl,rfl,_⟩|⟨e,rfl,hg⟩
 simp only[oC,cP];rfl;rfl
theorem Gr.snap1{h:Hp}{k:Nat}{v:AV}{es:List Int}(g:Gr h k v es):∃nl cl keys,mapS (Tev.snap depth h) [v]=some ([.sl nl (es.map aV) cl],keys)/\(keys=[]\/keys=[k]):=by obtain⟨nl,cl,keys,h1,h2⟩:=g.snap;refine⟨nl,cl,keys,?_,h2⟩;rw[bG,h1,eN];simp
section
variable{pg:Pg}{kb:Nat}
end
section
variable{pg:Pg}
end
end
section
def aJU(n:Int):List UInt8:=if n<0 then [] else 105::qE 20 n.toNat
section
variable{pg:Pg}
end
end
section
end
section
def aGH(i:Nat)(l:Lin):Bool:=decide (l.c=0)&&match l.ts.es with
 |[t]=>decide (t.v.bs=aJU i)&&decide (t.c=1)
 |_=>false
def TU:Nat->List Lin->Bool
 |_,[]=>true
 |i,l::r=>aGH i l&&TU (i+1) r
def aIP(p:aA)(rank:Int):Bool := !p.dyn&&(decide ((p.at_.es.length:Int)=rank)&&TU 0 p.at_.es)
def aQe(v rank:Int)(p:aA):Bool := !(decide (p.op.bs=[114,101,97,100])&&(decide (p.value=v) && !aIP p rank))
mutual
def aQd(v rank:Int):aA->Bool
 |.mk op num value name at_ dyn check fn knl kids kcl=>aQe v rank (.mk op num value name at_ dyn check fn knl kids kcl)&&aCg v rank kids
def aCg(v rank:Int):List aA->Bool
 |[]=>true
 |p::r=>aQd v rank p&&aCg v rank r
end
end
end Go.Tev
