import Derived.Test.YtilkdbbkkcnocaaGreatDoorSBH
import Derived.Test.YtilkdbbkkcnocaaGreatDoorSBG
import Derived.Test.YtilkdbbkkcnocaaGreatDoorSAR
import Derived.Test.YtilkdbbkkcnocaaGreatDoorSBE
set_option linter.all false
namespace Go.Tev
section
section
variable{pg:Pg}{kb:Nat}
def Src(h:Hp)(esz:Nat)(ag:Bool)(w:AV)(xs:List AV):Prop:=∃ds rd,aP esz ag xs=some ds/\bM h esz ag w=some (ds,xs.length,rd)
theorem Src.sl{h:Hp}{esz:Nat}{ag nl cl:Bool}{xs:List AV}(hx:∀x∈xs,El esz ag x):Src h esz ag (.sl nl xs cl) xs:=by obtain⟨ds,d1,d2,d3,_⟩:=bU hx;exact⟨ds,[],d1,by simp[bM,d1]⟩
theorem Own.src{h:Hp}{k2 esz:Nat}{ag:Bool}{w:AV}{xs:List AV}(o2:Own h k2 esz ag w xs)(hx:∀x∈xs,El esz ag x):Src h esz ag w xs:=by
 rcases o2 with ⟨rfl,nl',cl',rfl,hc⟩|⟨e,cs,rfl,hg,hu⟩
 exact Src.sl hx;obtain⟨ds,d1,d2,d3,_⟩:=bU hx;rw[hu]at d1;cases d1;refine⟨cs,[k2],hu,?_⟩;simp only[bM,hg,List.drop_zero];rw[if_pos ⟨trivial,by omega,by rw[<-d2,List.take_length];exact d3⟩,<-d2,List.take_length]
theorem aBP{esz bytes s k1 e n:Nat}{ag:Bool}{h:Hp}{cs:List AV}{es xs:List AV}{nl cl:Bool}{Q:AV->Eff->Prop}{t:Tok Q}(hnl:n=es.length)(hg:h.get k1=some (e,.blk cs esz ag false false))(hu:aP esz ag es=some cs)(hk1:k1≠kb+s)
  (he:∀x∈es,El esz ag x) (hx:∀x∈xs,El esz ag x) (hn:xs≠[]) (hl:n+xs.length<=1073741824) (hb:bytes<=65536)
  (q:∀ds,aP esz ag (es++xs)=some ds->Q (.rf (kb+s) (h.next (kb+s)) 0 (n+xs.length) (n+xs.length)) (.pat [kb+s,k1] [⟨k1,e,.dead⟩,⟨kb+s,h.next (kb+s),.blk ds esz ag false false⟩])) :
  XO pg kb (.app esz ag bytes) s h [.rf k1 e 0 n n,.sl nl xs cl] Q t:=by
 subst hnl;rw[qK];obtain⟨ds,d1,d2,d3,_⟩:=bU hx;obtain⟨cs',c1,c2,_,_⟩:=bU he;rw[hu]at c1;cases c1;have hn':xs.length≠0:=by simpa using hn
 have h1:¬(es.length+xs.length<=es.length):=by omega
 have h2:(k1==kb+s)=false:=by simpa using hk1
 have q':=q (cs++ds) (eV hu d1);simp only[o7,bM,d1,Option.map_some,lG,hg,hn',if_false,true_and,Nat.zero_add];rw[if_pos (by omega)];simp only[h1,if_false,hl,hb,decide_true,Bool.true_and,h2,Bool.not_false,if_true,Bool.false_eq_true,List.drop_zero,<-c2,List.take_length];exact q'
theorem aBR{esz bytes s:Nat}{ag:Bool}{h:Hp}{xs:List AV}{nl cl nl' cl':Bool}{Q:AV->Eff->Prop}{t:Tok Q}(hc:(nl||cl)=true)(hx:∀x∈xs,El esz ag x)(hn:xs≠[])(hl:xs.length<=1073741824)(hb:bytes<=65536)
  (q:∀ds,aP esz ag xs=some ds->Q (.rf (kb+s) (h.next (kb+s)) 0 xs.length xs.length) (.pat [kb+s] [⟨kb+s,h.next (kb+s),.blk ds esz ag false false⟩])):XO pg kb (.app esz ag bytes) s h [.sl nl [] cl,.sl nl' xs cl'] Q t:=by
 rw[qK];obtain⟨ds,d1,d2,d3,_⟩:=bU hx;have hn':xs.length≠0:=by simpa using hn
 simp only[o7,bM,d1,Option.map_some,lG,hn',if_false,hc,List.length_nil,Nat.zero_add,Bool.true_and,hl,hb,decide_true,Bool.and_self,if_true,aP,List.nil_append];exact q ds d1
end
end
section
theorem Gr.one{h:Hp}{k:Nat}{v:AV}{xs:List Int}(g:Gr h k v xs):v.fits 1 false=true/\v.one=true/\v.cells=[v]:=by rcases g with ⟨nl,cl,rfl,_⟩|⟨e,rfl,hg⟩<;>exact⟨rfl,rfl,rfl⟩
theorem Gr.src{h:Hp}{k:Nat}{v:AV}{xs:List Int}(g:Gr h k v xs):Src h 1 false v (xs.map aV):=by
 rcases g with ⟨nl,cl,rfl,_⟩|⟨e,rfl,hg⟩
 exact Src.sl (El.ints xs);refine⟨xs.map aV,[k],tG xs,?_⟩;simp only[bM,hg,List.drop_zero];have hal:∀l:List Int,bC (l.map aV)=true:=by
  intro l
  induction l with
  |nil=>rfl
  |cons x r ih=>simp[bC,aV,AV.one]at ih ⊢;exact ih
 rw[if_pos];simp[List.take_of_length_le];refine⟨trivial,by simp,?_⟩;rw[List.take_of_length_le (by simp)];exact hal xs
section
variable{pg:Pg}
end
end
section
private theorem eq1s(a b:List UInt8):eq1 (.str a) (.str b)=some (decide (a=b)):=rfl
section
variable{pg:Pg}
end
end
section
theorem v8{values:Int}{name:Str}{vars:List Str}:∀{l:List aA}{i:Nat}{q:aA},dS values false name vars i l=true->q∈l->cD values q vars=true
 |[],_,_,_,h=>by cases h
 |x::r,i,q,h,hq=>by simp only[dS,Bool.false_and,aD]at h;rcases List.mem_cons.1 hq with rfl|hq;simpa using h.1;exact v8 h.2 hq
section
variable{pg:Pg}
end
end
section
def aIm(h:Hp)(v:AV)(es:List Int):Prop:=∃k,Own h k 1 false v (es.map aV)/\65536<=k/\((k % 32768=5\/k % 32768=9)/\k / 65536 % 65536=26)
theorem aIm.mono{h h':Hp}{v:AV}{es:List Int}(o:aIm h v es)(hk:∀q,65536<=q->((q % 32768=5\/q % 32768=9)/\q / 65536 % 65536=26)->h'.get q=h.get q):aIm h' v es:=by obtain⟨k,g,h1,h2⟩:=o;exact⟨k,g.mono (hk k h1 h2),h1,h2⟩
def BP(h h':Hp)(kb:Nat):Prop:=∀q,q<kb->q≠29->¬((q % 32768=5\/q % 32768=9)/\q / 65536 % 65536=26)->h'.get q=h.get q
theorem BP.refl(h:Hp)(kb:Nat):BP h h kb:=λ_ _ _ _=>rfl
theorem BP.trans{h h' h'':Hp}{kb kb':Nat}(a:BP h h' kb)(b:BP h' h'' kb')(hk:kb<=kb'):BP h h'' kb:=λq h1 h2 h3=>(b q (by omega) h2 h3).trans (a q h1 h2 h3)
def X2(h:Hp)(kb:Nat)(w:AV)(env:List Val):Prop:=
 (∃nl cl,w = .sl nl (env.map Val.av) cl)\/(∃k e cs,w = .rf k e 0 env.length env.length/\k<kb/\k≠29/\¬((k % 32768=5\/k % 32768=9)/\k / 65536 % 65536=26)/\aP 2 true (env.map Val.av)=some cs/\h.get k=some (e,.blk cs 2 true false false))
theorem El.vals(l:List Val):∀x∈l.map Val.av,El 2 true x:=by intro x hx;simp only[List.mem_map]at hx;obtain⟨y,_,rfl⟩:=hx;exact⟨rfl,rfl,rfl⟩
theorem X2.mono{h h':Hp}{kb kb':Nat}{w:AV}{env:List Val}(g:X2 h kb w env)(hk:BP h h' kb)(hl:kb<=kb'):X2 h' kb' w env:=by
 rcases g with g|⟨k,e,cs,rfl,h1,h2,h29,h3,h4⟩
 exact .inl g;exact .inr ⟨k,e,cs,rfl,by omega,h2,h29,h3,(hk k h1 h2 h29).trans h4⟩
theorem X2.snap1{h:Hp}{kb:Nat}{w:AV}{env:List Val}(g:X2 h kb w env):∃nl cl keys,mapS (Tev.snap depth h) [w]=some ([.sl nl (env.map Val.av) cl],keys):=by
 have ht:treeL (env.map Val.av)=true:=bQ (f:=Val.av) (λ_=>rfl) env;rcases g with ⟨nl,cl,rfl⟩|⟨k,e,cs,rfl,h1,h2,h29,h3,h4⟩
 refine⟨nl,cl,[],dA 63 h ?_⟩;simp only[treeL,AV.tree,ht,Bool.and_self];obtain⟨cs',c1,c2,c3,c4⟩:=bU (El.vals env);rw[h3]at c1;cases c1;have c5:jS 2 true env.length cs=some (env.map Val.av):=by simpa using c4 []
 refine⟨false,false&&env.length==env.length,[k],?_⟩;have hs:Tev.snap depth h (.rf k e 0 env.length env.length)=some (.sl false (env.map Val.av) (false&&env.length==env.length),[k]):=by show Tev.snap (63+1) h _=_;unfold Tev.snap;simp only[AV.tree,Bool.false_eq_true,if_false,h4,if_true,List.drop_zero,c5,dA 62 h ht,Option.map_some]
 rw[bG,hs,eN];rfl
section
variable{pg:Pg}{kb:Nat}
end
section
variable{pg:Pg}
end
end
end Go.Tev
