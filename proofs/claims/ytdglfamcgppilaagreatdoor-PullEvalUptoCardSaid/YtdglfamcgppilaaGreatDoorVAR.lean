import Derived.Test.YtdglfamcgppilaaGreatDoorVAQ
import Derived.Lib.AtoiAll
import Derived.Lib.AtoiAllCases
import Derived.Test.YtdglfamcgppilaaGreatDoorVAH
import Derived.Lib.SlicesCompact
import Derived.Lib.ItoaNum
import Derived.Lib.AtoiErrMem
import Derived.Sort.Grow
import Derived.Lib.Join
import Derived.Lib.IndexMore
set_option linter.all false
namespace Go.Tev
section
mutual
def aA.sz:aA->Nat
 |.mk _ _ _ _ _ _ _ _ _ kids _=>1+aA.szL kids
def aA.szL:List aA->Nat
 |[]=>0
 |p::r=>p.sz+aA.szL r
end
theorem aA.sz_eq(p:aA):p.sz=1+aA.szL p.kids:=by cases p;rw[aA.sz];rfl
theorem aA.szL_mem:∀{l:List aA}{q:aA},q∈l->q.sz<=aA.szL l
 |x::r,q,h=>by rcases List.mem_cons.1 h with rfl|h;rw[aA.szL];omega;have:=aA.szL_mem h;rw[aA.szL];omega
mutual
def eJ(values:Int):aA->List Str->Bool
 |.mk op num value name at_ dyn check fn knl kids kcl,vars=>
  bZ (.mk op num value name at_ dyn check fn knl kids kcl) vars values&&eK at_.es vars&&cU values (decide (op.bs=[114,101,100,117,99,101])) name vars 0 kids
def cU(values:Int)(red:Bool)(name:Str)(vars:List Str):Nat->List aA->Bool
 |_,[]=>true
 |i,k::r=>eJ values k (if red&&decide ((i:Int)=1) then vars++[name] else vars)&&cU values red name vars (i+1) r
end
theorem kH(values:Int)(p:aA)(vars:List Str):eJ values p vars=(bZ p vars values&&eK p.at_.es vars&&cU values (decide (p.op.bs=[114,101,100,117,99,101])) p.name vars 0 p.kids):=by cases p;rw[eJ];rfl
theorem Own.snap{h:Hp}{k0 esz:Nat}{ag:Bool}{v:AV}{es:List AV}(o:Own h k0 esz ag v es)(he:∀x∈es,El esz ag x)(d:Nat):∃nl cl keys,Tev.snap (d+2) h v=some (.sl nl es cl,keys)/\(nl=true->es=[]):=by
 rcases o with ⟨rfl,nl,cl,rfl,hc⟩|⟨e,cs,rfl,hg,hu⟩
 exact⟨nl,cl,[],by rw[lV];rfl,λ_=>rfl⟩;obtain⟨cs',h1,h2,h3,h4⟩:=bT he;rw[hu]at h1;cases h1;have h5:=h4 [];rw[List.append_nil]at h5;have ht:treeL es=true:=by
  clear h2 h4 h5 hu hg
  induction es with
  |nil=>rfl
  |cons x r ih=>simp only[treeL,aD];exact⟨(he x (by simp)).tree,ih (λy hy=>he y (cC _ hy))⟩
 have h6:mapS (Tev.snap (d+1) h) es=some (es,[]):=dK d h ht;exact⟨false,false,[k0],by rw[lV];simp[hg,h5,h6,AV.tree],λh=>by cases h⟩
theorem rO{h:Hp}{d:Nat}{a:AV}(ha:a.tree=true):Tev.snap (d+1) h a=some (a,[]):=by rw[lV,if_pos ha]
theorem nU{h:Hp}{d:Nat}{a b c b':AV}{keys:List Nat}(ha:a.tree=true)(hb:Tev.snap (d+1) h b=some (b',keys))(hc:c.tree=true):mapS (Tev.snap (d+1) h) [a,b,c]=some ([a,b',c],keys):=by simp[cA,fY,rO ha,rO hc,hb]
section
variable{pg:Pg}
theorem c147(hf:pg.fs 147=some H6)(h182:∀(p:aA),p.kids.length<=big->∀(nl cl:Bool) (vars:List Str),vars.length<=big->∀v:Int,Ret pg 182 [p.av,.sl nl (vars.map Str.av) cl,.int .i64 v] (.bool (bZ p vars v)))
  (h183:∀(nl cl:Bool)(ls:List Lin),ls.length<=big->∀(nl' cl':Bool)(vars:List Str),vars.length<=big->Ret pg 183 [.sl nl (ls.map Lin.av) cl,.sl nl' (vars.map Str.av) cl'] (.bool (eK ls vars)))
  (h184:pg.fs 184=some B1) (h209:pg.fs 209=some yZ) (v:Int) :
  ∀p:aA,p.ok->∀(nl cl:Bool)(vars:List Str),vars.length+p.sz<=big->Ret pg 147 [p.av,.sl nl (vars.map Str.av) cl,.int .i64 v] (.bool (eJ v p vars)):=by
 refine aA.ind' λp ih hp nl cl vars hb=>?_;obtain⟨hk,hks⟩:=(aA.ok_iff p).1 hp;have hsz:=aA.sz_eq p;have a1:=h182 p hk nl cl vars (by omega) v;have a2:=h183 p.at_.nl p.at_.cl p.at_.es p.at_.ok nl cl vars (by omega);rw[aA.avc]at a1;clear h182 h183;refine Ret.ofX hf ?_;unfold H6;refine Wk ?_;refine aC (a1) (Wk ?_);cases b1:bZ p vars v;refine Wk ?_;rw[kH,b1];rfl;refine Wk ?_;refine aC (a2) (Wk ?_);cases b2:eK p.at_.es vars;refine Wk ?_;rw[kH,b1,b2];rfl;refine Wk ?_;generalize hred:decide (p.op.bs=[114,101,100,117,99,101])=red;have hspec:eJ v p vars=cU v red p.name vars 0 p.kids:=by rw[kH,b1,b2,hred];rfl
 rw[hspec];refine fP p.kids (λd e=>eN e (some 25) (.int .i64 d.length)) (λd r hp=>hp.get 1=some (0,.blk [.str p.op.bs,.int .i64 p.num,.int .i64 p.value,.str p.name.bs,.sl p.at_.nl (p.at_.es.map Lin.av) p.at_.cl,.bool p.dyn,.int .i64 p.check,.sl p.fn.nl (p.fn.es.map aH.av) p.fn.cl,.sl p.knl (p.kids.map aA.av) p.kcl] 9 true true false)/\cU v red p.name vars 0 p.kids=cU v red p.name vars d.length r) rfl ?_ ?_ ?_;exact⟨rfl,rfl⟩;rintro hp ⟨h1,hI⟩;simp only[E7,E6,go_sem,seval];rw[hI];rfl;rintro d x r hp hes ⟨h1,hI⟩;have hxm:x∈p.kids:=by rw[hes];simp
 have hxs:x.sz<=aA.szL p.kids:=aA.szL_mem hxm;have hx:=ih x hxm (hks x hxm);simp only[cU]at hI;have hb2:(d++x::r).length<=big:=by rw[<-hes];exact hk
 have hlast:∀own:List Str,∀hp2:Hp,hp2.get 1=hp.get 1->eJ v x own=eJ v x (if red&&decide ((d.length:Int)=1) then vars++[p.name] else vars)->True:=λ_ _ _ _=>trivial;have h0:=h1;rw[hes]at h1 ⊢;simp only[E7,E6,h1,hred,go_sem,seval];cases c1:red;refine Wk ?_;have hx1:=hx nl cl vars (by omega);rw[aA.avc]at hx1;refine aC (hx1) ?_;rw[c1]at hI;refine Wk ?_;cases b3:eJ v x vars;refine Wk ?_;rw[<-hes,hI];simp[b3];simp only[cW hb2,go_sem,seval];rw[<-hes];exact⟨h0,by simpa[b3] using hI⟩;refine Wk ?_;cases c2:decide ((d.length:Int)=1);simp only[c2,go_sem,seval];have hx1:=hx nl cl vars (by omega);rw[aA.avc]at hx1;refine aC (hx1) ?_;rw[c1,c2]at hI;refine Wk ?_;cases b3:eJ v x vars;refine Wk ?_;rw[<-hes,hI];simp[b3];simp only[cW hb2,go_sem,seval];rw[<-hes];exact⟨h0,by simpa[b3] using hI⟩;simp only[c2,h1,go_sem,seval];refine S0 (c184 h184 h209 nl cl vars p.name (by omega)) (by simp only[go_sem,seval]) (El.strs (vars++[p.name])) ?_;intro v' rd pa ho hkk hpa;simp only[hkk,go_sem,seval];obtain⟨nl2,cl2,keys,hsn,hnl⟩:=ho.snap (El.strs (vars++[p.name])) 62;have hx2:=hx nl2 cl2 (vars++[p.name]) (by simp;omega);rw[aA.avc]at hx2;refine gQ hx2 (nU (by simp only[go_sem,seval]) hsn (by simp only[go_sem,seval])) (v:=.bool (eJ v x (vars++[p.name]))) (pa:=[]) rfl ?_;rw[c1,c2]at hI;simp only[hkk,go_sem,seval];cases b3:eJ v x (vars++[p.name]);refine Wk ?_;rw[<-hes,hI];simp[b3];simp only[cW hb2,hkk,go_sem,seval];rw[<-hes];exact⟨h0,by simpa[b3] using hI⟩
def gW(p:aA)(vars:List Str)(v:Int):Bool:=decide (kI p<=4000)&&eJ v p vars
theorem c109(hf:pg.fs 109=some ID)(h146:pg.fs 146=some B4)(h147:∀p:aA,p.ok->∀(nl cl:Bool) (vars:List Str),vars.length+p.sz<=big->∀v:Int,Ret pg 147 [p.av,.sl nl (vars.map Str.av) cl,.int .i64 v] (.bool (eJ v p vars)))
  (p:aA) (hp:p.ok) (nl cl:Bool) (vars:List Str) (hb:vars.length+p.sz<=big) (v:Int):Ret pg 109 [p.av,.sl nl (vars.map Str.av) cl,.int .i64 v] (.bool (gW p vars v)):=by
 have a1:=c146 h146 p hp;have a2:=h147 p hp nl cl vars hb v;rw[aA.avc]at a1 a2;refine Ret.ofX hf ?_;clear h146 h147;unfold ID
 repeat' (first|simp only[*,go_sem,seval]|refine bW (λ_=>?_) (λ_=>?_)|refine bX (λ_=>?_) (λ_=>?_)|(refine aC a1 ?_)|(refine aC a2 ?_)|refine bI ?_)
 all_goals (clear a1 a2)
 all_goals (simp_all [gW])
 all_goals (intro h;exfalso;omega)
def lU(a b:aH):Bool:=decide (a.op.bs=b.op.bs)&&decide (a.num=b.num)&&eqL (λx y=>decide (x=y)) a.args.es b.args.es
mutual
def jL:aA->aA->Bool
 |.mk op num value name at_ dyn check fn knl kids kcl,q=>decide (op.bs=q.op.bs)&&decide (num=q.num)&&decide (value=q.value)&&decide (name.bs=q.name.bs)&&(dyn==q.dyn)&&decide (check=q.check)&&eqL iM at_.es q.at_.es&&eqL lU fn.es q.fn.es&&mJ kids q.kids
def mJ:List aA->List aA->Bool
 |[],l=>l.isEmpty
 |p::r,l=>match l with|[]=>false|q::s=>jL p q&&mJ r s
end
theorem tD(p q:aA):jL p q=(decide (p.op.bs=q.op.bs)&&decide (p.num=q.num)&&decide (p.value=q.value)&&decide (p.name.bs=q.name.bs)&&(p.dyn==q.dyn)&&decide (p.check=q.check)&&eqL iM p.at_.es q.at_.es&&eqL lU p.fn.es q.fn.es&&mJ p.kids q.kids):=by cases p;rw[jL];rfl
theorem nQ:∀a b:List aA,mJ a b=eqL jL a b
 |[],[]=>by simp[mJ,eqL]
 |[],_::_=>by simp[mJ,eqL]
 |_::_,[]=>by simp[mJ,eqL]
 |p::r,q::s=>by simp[mJ,eqL,nQ r s]
end
end
section
mutual
def cJ:aA->List Int
 |.mk op _ value _ _ _ _ _ _ kids _=>(if decide (op.bs=[114,101,97,100]) then [value] else [])++fG kids
def fG:List aA->List Int
 |[]=>[]
 |p::r=>cJ p++fG r
end
theorem pS(p:aA):cJ p=(if decide (p.op.bs=[114,101,97,100]) then [p.value] else [])++fG p.kids:=by cases p;rw[cJ];rfl
theorem uW:∀(d:List aA)(x:aA),fG (d++[x])=fG d++cJ x
 |[],x=>by simp[fG]
 |y::d,x=>by simp[fG,uW d x]
mutual
theorem nO:∀p:aA,(cJ p).length<=p.sz
 |.mk op num value name at_ dyn check fn knl kids kcl=>by have:=qY kids;rw[cJ,aA.sz,dZ];split<;>simp<;>omega
theorem qY:∀l:List aA,(fG l).length<=aA.szL l
 |[]=>by simp[fG,aA.szL]
 |p::r=>by have h1:=nO p;have h2:=qY r;simp only[fG,aA.szL,dZ];omega
end
def cL(pg:Pg)(f:Nat)(vs:List AV)(kb:Nat)(h:Hp)(P:AV->Hp->Prop):Prop:=∃r h',pN pg f vs kb h r h'/\P r h'
def MR(res:List (Sum Nat (Nat×Nat×Bool)))(P:AV->Hp->Prop)(ex:Ex)(st:St):Prop:=
 match ex with
 |.ext _=>False
 |_=>∃v,result st res=some v/\P v st.hp
theorem OH(res:List (Sum Nat (Nat×Nat×Bool)))(P:AV->Hp->Prop)(st:St):MR res P .nor st=∃v,result st res=some v/\P v st.hp:=rfl
theorem OG(res:List (Sum Nat (Nat×Nat×Bool)))(P:AV->Hp->Prop)(st:St):MR res P .ret st=∃v,result st res=some v/\P v st.hp:=rfl
attribute [go_sem ↓] OH OG
section
variable{pg:Pg}{kb:Nat}
theorem cL.ofX{f:Nat}{cf:CF}{vs:List AV}{h:Hp}{P:AV->Hp->Prop}(hf:pg.fs f=some cf)(hw:XX pg kb cf.body ⟨enter cf vs,h⟩ (MR cf.res P) ⟨⟩):cL pg f vs kb h P:=by
 obtain⟨n,ex,st,h1,h2⟩:=hw;cases ex with
 |ext i=>exact h2.elim
 |nor=>obtain⟨v,h3,h4⟩:=h2;exact⟨v,st.hp,pN.of hf ⟨n,.nor,st,h1,trivial,h3,rfl⟩,h4⟩
 |ret=>obtain⟨v,h3,h4⟩:=h2;exact⟨v,st.hp,pN.of hf ⟨n,.ret,st,h1,trivial,h3,rfl⟩,h4⟩
theorem aN{f s:Nat}{th im:Bool}{h:Hp}{vs:List AV}{P:AV->Hp->Prop}{Q:AV->Eff->Prop}{t:Tok Q}(hm:im=true\/mapS (snap depth h) vs=none){B:Nat}(hB:dQ kb s vs=B)(hr:cL pg f vs B h P)
   (hq:∀r h',P r h'->Q r (.whole h')):XO pg kb (.call f th im) s h vs Q t:=by
 obtain⟨r,h',h1,h2⟩:=hr;exact kX hm hB h1 (hq r h' h2)
theorem X5{esz bytes s k1:Nat}{ag:Bool}{h:Hp}{v:AV}{es xs:List AV}{nl cl:Bool}{Q:AV->Eff->Prop}{t:Tok Q}(o:Own h k1 esz ag v es)(he:∀x∈es,El esz ag x)(hx:∀x∈xs,El esz ag x)(hxs:xs≠[])
  (hl:es.length+xs.length<=1073741824) (hb:bytes<=65536)
  (q2:∀v' rd pa,Own (Eff.app h (.pat rd pa)) (kb+s) esz ag v' (es++xs)->(∀k,k≠kb+s->k≠k1->(Eff.app h (.pat rd pa)).get k=h.get k)->Q v' (.pat rd pa)) :
  XO pg kb (.app esz ag bytes) s h [v,.sl nl xs cl] Q t:=by
 by_cases hk:k1=kb+s;subst hk;exact kN o he hx hl hb (λv' rd pa h1 h2 _=>q2 v' rd pa h1 (λk h3 _=>h2 k h3));exact FL o hk he hx hl hb (λh=>absurd h hxs) (λ_ v' rd pa h1 h2=>q2 v' rd pa h1 h2)
theorem pT{f:AV->Option (AV×List Nat)}:∀{l:List AV}{x:AV},x∈l->f x=none->mapS f l=none
 |y::r,x,h,hf=>by
  rcases List.mem_cons.1 h with rfl|h;simp[cA,hf];rw[cA];cases f y with
  |none=>rfl
  |some p=>simp[pT h hf]
theorem qU{h:Hp}{f kw ew:Nat}{cs:List AV}{ti fz:Bool}(hg:h.get kw=some (ew,.blk [.fn f cs] 1 false ti fz))(hm:AV.pt kw ew 0∈cs):∀d,snap d h (.pt kw ew 0)=none
 |0=>rfl
 |1=>by rw[lV];simp[AV.tree,hg,cA,snap]
 |d+2=>by
  have ih:=qU hg hm d;have hms:=pT hm ih;have ht:treeL cs=false:=by
   clear hms ih hg
   induction cs with
   |nil=>cases hm
   |cons x r ih2=>simp only[treeL];rcases List.mem_cons.1 hm with rfl|hm;simp[AV.tree];simp[ih2 hm]
  rw[lV];simp[AV.tree,hg,cA,lV,ht,hms]
def Out(h:Hp)(v:AV)(es:List Int):Prop:=∃k,Own h k 1 false v (es.map aE)/\65536<=k/\k % 65536=5
theorem El.ints(l:List Int):∀x∈l.map aE,El 1 false x:=by intro x hx;simp only[List.mem_map]at hx;obtain⟨y,_,rfl⟩:=hx;exact⟨rfl,rfl,rfl⟩
theorem aA.szL_append:∀(a b:List aA),aA.szL (a++b)=aA.szL a+aA.szL b
 |[],b=>by simp[aA.szL]
 |x::r,b=>by simp[aA.szL,aA.szL_append r b];omega
def S8(h h':Hp)(kb:Nat):Prop:=∀q,q≠5->q % 65536≠5->q<kb->h'.get q=h.get q
def LG(eo:Nat)(h:Hp)(kb:Nat)(es:List Int)(r:AV)(h':Hp):Prop:=r = .tup []/\(∃v',h'.get 5=some (eo,.blk [v'] 1 false true false)/\Out h' v' es)/\S8 h h' kb
theorem Out.put{h:Hp}{v:AV}{es:List Int}(o:Out h v es){q e:Nat}{ob:Ob}(hq:q<65536\/q % 65536≠5):Out (h.put q e ob) v es:=by obtain⟨k,o,h1,h2⟩:=o;refine⟨k,o.mono ?_,h1,h2⟩;rw[aB,if_neg (by intro h;subst h;omega)]
theorem Own.one{h:Hp}{k0 esz:Nat}{ag:Bool}{v:AV}{es:List AV}(o:Own h k0 esz ag v es):v.fits 1 false=true/\v.one=true/\v.cells=[v]:=by
 rcases o with ⟨rfl,nl,cl,rfl,hc⟩|⟨e,cs,rfl,hg,hu⟩
 exact⟨rfl,rfl,rfl⟩;exact⟨rfl,rfl,rfl⟩
theorem IK(p:aA)(hks:∀q∈p.kids,q.ok)(hk:p.kids.length<=big)(kb eo ew:Nat)(h:Hp)(hkb:65536<=kb)(hkb2:kb % 65536=0)(es:List Int)(hsz:es.length+aA.szL p.kids<=big)
  (ih:∀q∈p.kids,q.ok->∀(kb:Nat)(h:Hp)(v:AV)(es:List Int)(eo ew:Nat),65536<=kb->kb % 65536=0->es.length+q.sz<=big ->
   h.get 5=some (eo,.blk [v] 1 false true false)->h.get 9=some (ew,.blk [.fn 74 [.pt 5 eo 0,.pt 9 ew 0]] 1 false true false)->Out h v es ->
   cL pg 74 [q.av,.pt 5 eo 0,.pt 9 ew 0] kb h (LG eo h kb (es++cJ q)))
  (v:AV) (hp:Hp) (h5:hp.get 5=some (eo,.blk [v] 1 false true false)) (h9:hp.get 9=some (ew,.blk [.fn 74 [.pt 5 eo 0,.pt 9 ew 0]] 1 false true false)) (ho:Out hp v es) (hkeep:S8 h hp kb) (env:List AV)
  (henv:clear KC env=D9 (.pt 9 ew 0) (.sl p.knl (p.kids.map aA.av) p.kcl) (.int .i64 p.kids.length) (.int .i64 0)) :
  XX pg kb (.loop D8 KC) ⟨env,hp⟩ (mA 0 (MR [] (LG eo h kb (es++fG p.kids)))) ⟨⟩:=by
 refine aM p.kids (λd r env hp=>env=D9 (.pt 9 ew 0) (.sl p.knl (p.kids.map aA.av) p.kcl) (.int .i64 p.kids.length) (.int .i64 d.length) /\
  ∃v,hp.get 5=some (eo,.blk [v] 1 false true false)/\hp.get 9=some (ew,.blk [.fn 74 [.pt 5 eo 0,.pt 9 ew 0]] 1 false true false)/\Out hp v (es++fG d)/\S8 h hp kb) ?_ ?_ ?_
 exact⟨henv,v,h5,h9,by simpa[fG] using ho,hkeep⟩;rintro env hp ⟨rfl,v,h5,h9,ho,hkeep⟩;simp only[D8,D9,go_sem,seval];exact⟨rfl,⟨v,h5,ho⟩,hkeep⟩;rintro d x r env hp hes ⟨rfl,v,h5,h9,ho,hkeep⟩;have hxm:x∈p.kids:=by rw[hes];simp
 have hb2:(d++x::r).length<=big:=by rw[<-hes];exact hk
 have hsd:aA.szL p.kids=aA.szL d+x.sz+aA.szL r:=by rw[hes,aA.szL_append];simp[aA.szL];omega
 have hrd:=qY d;have n1:(kb+9=5)=False:=eq_false (by omega);have n2:(kb+9=9)=False:=eq_false (by omega);have n3:(kb+5=9)=False:=eq_false (by omega);rw[hes];simp only[D8,D9,n1,n2,n3,h9,go_sem,seval];generalize hO1:Ob.blk [AV.str [],AV.int IntKind.i64 0,AV.int IntKind.i64 0,AV.str [],AV.sl true [] true,AV.bool false,AV.int IntKind.i64 0,AV.sl true [] true,AV.sl true [] true] 9 true true false=O1;have g5:∀o1 o2,((hp.put (kb+9) (hp.next (kb+9)) o1).put (kb+9) (hp.next (kb+9)) o2).get 5=hp.get 5:=by intro o1 o2;rw[aB,if_neg (by omega),aB,if_neg (by omega)]
 have g9:∀o1 o2,((hp.put (kb+9) (hp.next (kb+9)) o1).put (kb+9) (hp.next (kb+9)) o2).get 9=hp.get 9:=by intro o1 o2;rw[aB,if_neg (by omega),aB,if_neg (by omega)]
 refine aN (P:=LG eo ((hp.put (kb+9) (hp.next (kb+9)) O1).put (kb+9) (hp.next (kb+9)) (Ob.blk
   [AV.str x.op.bs,AV.int IntKind.i64 x.num,AV.int IntKind.i64 x.value,AV.str x.name.bs,
    AV.sl x.at_.nl (List.map Lin.av x.at_.es) x.at_.cl,AV.bool x.dyn,AV.int IntKind.i64 x.check,
    AV.sl x.fn.nl (List.map aH.av x.fn.es) x.fn.cl,AV.sl x.knl (List.map aA.av x.kids) x.kcl]
   9 true true false)) ((kb+13+1)*65536) (es++fG d++cJ x)) (.inr ?_) (B:=(kb+13+1)*65536) rfl ?_ ?_
 refine pT (x:=.pt 9 ew 0) (by simp) (qU (f:=74) (cs:=[.pt 5 eo 0,.pt 9 ew 0]) (ti:=true) (fz:=false) ?_ (by simp) _);rw[g9];exact h9;rw[<-aA.avc];refine ih x hxm (hks x hxm) _ _ v _ eo ew (by omega) (by omega) (by simp;omega) (by rw[g5];exact h5) (by rw[g9];exact h9) ?_;exact(ho.put (.inr (by omega))).put (.inr (by omega));rintro r' h' ⟨rfl,⟨v2,q5,q6⟩,q7⟩;have q9:h'.get 9=hp.get 9:=by rw[q7 9 (by omega) (by omega) (by omega),g9]
 simp only[cW hb2,go_sem,seval];refine⟨rfl,v2,q5,by rw[q9];exact h9,by rw[uW,<-List.append_assoc];exact q6,?_⟩;intro q c1 c2 c3;rw[q7 q c1 c2 (by omega),aB,if_neg (by omega),aB,if_neg (by omega)];exact hkeep q c1 c2 c3
theorem c74(hf:pg.fs 74=some OM):∀p:aA,p.ok->∀(kb:Nat)(h:Hp)(v:AV)(es:List Int)(eo ew:Nat),65536<=kb->kb % 65536=0->es.length+p.sz<=big ->
  h.get 5=some (eo,.blk [v] 1 false true false)->h.get 9=some (ew,.blk [.fn 74 [.pt 5 eo 0,.pt 9 ew 0]] 1 false true false)->Out h v es ->
  cL pg 74 [p.av,.pt 5 eo 0,.pt 9 ew 0] kb h (LG eo h kb (es++cJ p)):=by
 refine aA.ind' λp ih hp kb h v es eo ew hkb hkb2 hsz h5 h9 hout=>?_;obtain⟨hk,hks⟩:=(aA.ok_iff p).1 hp;have hps:=aA.sz_eq p;refine cL.ofX hf ?_;rw[pS,<-List.append_assoc];unfold OM;have k1:(kb+1=5)=False:=eq_false (by omega);have k2:(kb+1=9)=False:=eq_false (by omega);have k3:(kb+5=5)=False:=eq_false (by omega);simp only[h5,k1,go_sem,seval];cases ho:decide (p.op.bs=[114,101,97,100]);refine Wk ?_;refine IK p hks hk kb eo ew h hkb hkb2 _ (by simp;omega) ih v _ (by rw[aB,if_neg (by omega)];exact h5) (by rw[aB,if_neg (by omega)];exact h9) ?_ ?_ _ rfl;simpa using hout.put (.inr (by omega));intro q q1 q2 q3;rw[aB,if_neg (by omega)]
 ·simp only[h5,k1,go_sem,seval];obtain⟨k,ho1,hk1,hk2⟩:=hout;refine X5 (k1:=k) (ho1.mono (by rw[aB,if_neg (by omega)])) (El.ints es) (El.ints [p.value]) (by simp) (by simp[big]at *;omega) (by omega) ?_;intro v' rd pa ho2 hkeep;have m1:(5=kb+5)=False:=eq_false (by omega);have m2:(5=k)=False:=eq_false (by omega);have m3:(9=kb+5)=False:=eq_false (by omega);have m4:(9=k)=False:=eq_false (by omega);have m5:(kb=4)=False:=eq_false (by omega);have m6:(kb+1=k)=False:=eq_false (by omega);have m7:(kb+1=kb+5)=False:=eq_false (by omega);have hg5:=(hkeep 5 (by omega) (by omega)).trans ((by rw[aB,if_neg (by omega)]:_=h.get 5).trans h5);have hg9:=(hkeep 9 (by omega) (by omega)).trans ((by rw[aB,if_neg (by omega)]:_=h.get 9).trans h9);obtain⟨f1,f2,f3⟩:=ho2.one;simp only[hg5,k1,k3,f1,f2,f3,hkeep,m1,m2,m5,m6,m7,Nat.zero_add,go_sem,seval];refine IK p hks hk kb eo ew h hkb hkb2 (es++[p.value]) (by rw[dZ,List.length_singleton];omega) ih v' _ ?_ ?_ ?_ ?_ _ ?_
  rotate_right
  rfl;rw[aB,if_pos rfl];rw[aB,if_neg (by omega)];exact hg9;refine Out.put ⟨kb+5,by rw[List.map_append];exact ho2,by omega,by omega⟩ (.inl (by omega));intro q q1 q2 q3;rw[aB,if_neg (Ne.symm q1),hkeep q (by omega) (by intro h;subst h;omega),aB,if_neg (by omega)]
end
end
section
def vT(x:Int):List Int->List Int
 |[]=>[x]
 |y::r=>if x<=y then x::y::r else y::vT x r
def eD:List Int->List Int
 |[]=>[]
 |x::r=>vT x (eD r)
def bU:List Int->List Int
 |[]=>[]
 |[x]=>[x]
 |x::y::r=>if x=y then bU (y::r) else x::bU (y::r)
theorem GN(x:Int):∀l,(vT x l).length=l.length+1
 |[]=>rfl
 |y::r=>by simp only[vT];split<;>simp[GN x r]
theorem gU:∀l,(eD l).length=l.length
 |[]=>rfl
 |x::r=>by simp[eD,GN,gU r]
theorem lQ:∀l:List Int,(bU l).length<=l.length
 |[]=>by simp[bU]
 |[x]=>by simp[bU]
 |x::y::r=>by have:=lQ (y::r);simp only[bU];split<;>simp at * <;> omega
theorem xX(x a:Int):∀l,a∈vT x l↔a=x\/a∈l
 |[]=>by simp[vT]
 |y::r=>by simp only[vT];split;simp;simp[xX x a r];constructor<;>intro h<;>rcases h with h|h|h<;>simp[h]
theorem kK(a:Int):∀l,a∈eD l↔a∈l
 |[]=>by simp[eD]
 |x::r=>by simp[eD,xX,kK a r]
theorem j0(a:Int):∀l:List Int,a∈bU l↔a∈l
 |[]=>by simp[bU]
 |[x]=>by simp[bU]
 |x::y::r=>by have:=j0 a (y::r);simp only[bU];split;rename_i h;subst h;simp[this];simp[this]
structure TB(pg:Pg):Prop where
 sort:∀(kb:Nat)(h:Hp)(k e:Nat)(l:List Int),h.get k=some (e,.blk (l.map aE) 1 false false false)->l.length<=big->pN pg 75 [.rf k e 0 l.length l.length] kb h (.tup []) (h.put k e (.blk ((eD l).map aE) 1 false false false))
 sortN:∀(kb:Nat)(h:Hp)(nl cl:Bool),pN pg 75 [.sl nl [] cl] kb h (.tup []) h
 comp:∀(kb:Nat)(h:Hp)(k e:Nat)(l:List Int),h.get k=some (e,.blk (l.map aE) 1 false false false)->l.length<=big ->
  ∃tl,pN pg 76 [.rf k e 0 l.length l.length] kb h (.rf k e 0 (bU l).length l.length) (h.put k e (.blk ((bU l).map aE++tl) 1 false false false))
 compN:∀(kb:Nat)(h:Hp)(nl cl:Bool),pN pg 76 [.sl nl [] cl] kb h (.sl nl [] cl) h
def cX(p:aA):List Int:=bU (eD (cJ p))
theorem cM:∀(l:List Int),aR 1 false (l.map aE)=some (l.map aE)
 |[]=>rfl
 |x::r=>by have ih:=cM r;rw[List.map_cons,aR,ih];rfl
section
variable{pg:Pg}
theorem cL.mono{f:Nat}{vs:List AV}{kb:Nat}{h:Hp}{P P':AV->Hp->Prop}(hr:cL pg f vs kb h P)(hP:∀r h',P r h'->P' r h'):cL pg f vs kb h P':=by obtain⟨r,h',a,b⟩:=hr;exact⟨r,h',a,hP r h' b⟩
theorem c48(S:TB pg)(hf:pg.fs 48=some R7)(h74:pg.fs 74=some OM)(p:aA)(hp:p.ok)(hsz:p.sz<=big):cB pg 48 [p.av] (nK 1 false ((cX p).map aE)):=by
 refine cB.ofX hf ?_;unfold R7;refine Wk ?_;refine aN (P:=λr h'=>r = .tup []/\∃v',h'.get 5=some (0,.blk [v'] 1 false true false)/\Out h' v' ([]++cJ p)) (.inr ?_) (B:=(0+13+1)*65536) rfl ?_ ?_;refine pT (x:=.pt 9 0 0) (by simp) (qU (f:=74) (cs:=[.pt 5 0 0,.pt 9 0 0]) (ti:=true) (fz:=false) ?_ (by simp) _);simp only[go_sem,seval];rw[<-aA.avc];refine cL.mono (c74 h74 p hp ((0+13+1)*65536) _ (.sl true [] true) [] 0 0 (by omega) (by omega) (by simpa using hsz) ?_ ?_ ?_) ?_;simp only[go_sem,seval];simp only[go_sem,seval];exact⟨65536+5,Own.nil _ _ _ _ _ _ rfl,by omega,by omega⟩;rintro r h' ⟨q1,q2,_⟩;exact⟨q1,q2.elim λv' hv=>⟨v',hv.1,hv.2⟩⟩;rintro r h' ⟨rfl,v,h5,k,ho,hk1,hk2⟩;rw[List.nil_append]at ho;have hlen:(cJ p).length<=big:=Nat.le_trans (nO p) hsz;simp only[h5,go_sem,seval];rcases ho with ⟨hnil,nl,cl,rfl,hc⟩|⟨e,cs,rfl,hg,hu⟩
 refine kX (.inl rfl) rfl (S.sortN _ _ nl cl) ?_;simp only[h5,go_sem,seval];refine kX (.inl rfl) rfl (S.compN _ _ nl cl) (Wk ?_);have hn:cJ p=[]:=by simpa using hnil
 exact .inl ⟨by simp[cX,hn,eD,bU],nl,cl,rfl,hc⟩;rw[cM]at hu;cases hu;have e1:((cJ p).map aE).length=(cJ p).length:=by simp
 rw[e1];refine kX (.inl rfl) rfl (S.sort _ h' k e (cJ p) hg hlen) ?_;have n5:(k=5)=False:=eq_false (by omega);have n5':(5=k)=False:=eq_false (by omega);simp only[h5,n5,go_sem,seval];have hc:=S.comp (dQ 0 21 [.rf k e 0 (cJ p).length (cJ p).length]) (h'.put k e (.blk ((eD (cJ p)).map aE) 1 false false false)) k e (eD (cJ p)) (by rw[aB,if_pos rfl]) (by rw[gU];exact hlen);rw[gU]at hc;obtain⟨tl,hc⟩:=hc;refine kX (.inl rfl) rfl hc ?_;obtain⟨cs,q1,q2,q3,q4⟩:=bT (El.ints (cX p));rw[cM]at q1;cases q1;have hl:((cX p).map aE).length=(bU (eD (cJ p))).length:=by simp[cX]
 have hq:=q4 tl;rw[hl]at hq;have hsn:∀h,mapS (snap 64 h) ((cX p).map aE)=some ((cX p).map aE,[]):=λh=>dK 63 h (gO _);simp only[conv,go_sem,seval];simp only[show List.map aE (bU (eD (cJ p)))=List.map aE (cX p) from rfl,hq,depth,hsn];exact⟨_,by simp,.inr rfl⟩
end
end
section
def pJ:Nat->Nat->List UInt8
 |0,_=>[]
 |f+1,u=>if u<10 then [UInt8.ofNat (48+u)] else pJ f (u / 10)++[UInt8.ofNat (48+u % 10)]
def i7(acc:Nat)(l:List UInt8):Nat:=l.foldl (λa c=>a*10+(c.toNat-48)) acc
theorem yM:∀(l:List UInt8)(acc:Nat),acc<=i7 acc l
 |[],acc=>Nat.le_refl _
 |c::r,acc=>by have:=yM r (acc*10+(c.toNat-48));simp only[i7,List.foldl_cons]at this ⊢;omega
theorem GY:∀(l:List UInt8)(acc:Nat),l.all cN=true->i7 acc l<(acc+1)*10 ^ l.length
 |[],acc,_=>by simp[i7]
 |c::r,acc,h=>by simp only[List.all_cons,aD,cN,aQ]at h;have:=GY r (acc*10+(c.toNat-48)) (by simpa[cN] using h.2);simp only[i7,List.foldl_cons,List.length_cons,Nat.pow_succ]at this ⊢;refine Nat.lt_of_lt_of_le this ?_;rw[Nat.mul_comm (10 ^ r.length) 10,<-Nat.mul_assoc];exact Nat.mul_le_mul_right _ (by omega)
theorem J1(l:List UInt8)(c:UInt8)(acc:Nat):i7 acc (l++[c])=i7 acc l*10+(c.toNat-48):=by simp[i7]
theorem rR:∀(l:List UInt8)(acc:Nat),l.all cN=true->i7 acc l<1844674407370955162->Lib.parseUint10 acc l = .ok (i7 acc l)
 |[],acc,_,_=>rfl
 |c::r,acc,h,hb=>by simp only[List.all_cons,aD]at h;have hd:=h.1;simp only[cN,aD,aQ]at hd;have h1:=yM r (acc*10+(c.toNat-48));have e:i7 acc (c::r)=i7 (acc*10+(c.toNat-48)) r:=rfl;rw[e]at hb ⊢;rw[Lib.parseUint10,if_pos hd,if_neg (by omega),if_neg (by omega)];exact rR r _ h.2 hb
theorem BI{l:List UInt8}(h:l.all cN=true)(h0:l≠[])(hh:l.head? ≠ some 48):0<i7 0 l:=by
 cases l with
 |nil=>exact absurd rfl h0
 |cons c r=>simp only[List.all_cons,aD,cN,aQ]at h;have h1:=yM r (0*10+(c.toNat-48));have h2:c.toNat≠48:=λe=>hh (by simp;exact UInt8.toNat_inj.1 e);have e:i7 0 (c::r)=i7 (0*10+(c.toNat-48)) r:=rfl;rw[e];omega
theorem GX:∀(n f:Nat)(l:List UInt8),l.length=n->n<=f->l.all cN=true->l≠[]->l.head? ≠ some 48->pJ f (i7 0 l)=l
 |0,f,l,hn,_,_,h0,_=>absurd (iE hn) h0
 |n+1,f,l,hn,hf,hd,h0,hh=>by
  obtain⟨f,rfl⟩:∃g,f=g+1:=⟨f-1,by omega⟩
  obtain⟨l',c,rfl⟩:∃l' c,l=l'++[c]:=by
   rcases CL l with h|⟨l',c,h⟩
   exact absurd h h0;exact⟨l',c,by simpa using h⟩
  simp only[List.all_append,List.all_cons,List.all_nil,Bool.and_true,aD]at hd;have hc:=hd.2;simp only[cN,aD,aQ]at hc;have hcc:UInt8.ofNat (48+(c.toNat-48))=c:=by rw[Nat.add_sub_cancel' hc.1];exact UInt8.ofNat_toNat
  rw[J1];by_cases hl:l'=[]
  subst hl;have:i7 0 []=0:=rfl;rw[this,pJ,if_pos (by omega)];simp only[Nat.zero_mul,Nat.zero_add,List.nil_append];rw[hcc];have hh':l'.head? ≠ some 48:=by
   cases l' with
   |nil=>exact absurd rfl hl
   |cons x r=>simpa using hh
  have hp:=BI hd.1 hl hh';rw[pJ,if_neg (by omega)];have e1:(i7 0 l'*10+(c.toNat-48)) / 10=i7 0 l':=by omega
  have e2:(i7 0 l'*10+(c.toNat-48)) % 10=c.toNat-48:=by omega
  rw[e1,e2,hcc,GX n f l' (by simpa using hn) (by omega) hd.1 hl hh']
theorem yL:∀(f u:Nat),0<u->u<10 ^ f->(pJ f u).all cN=true/\pJ f u≠[]/\(pJ f u).head? ≠ some 48
 |0,u,h,hu=>by simp at hu;omega
 |f+1,u,h,hu=>by
  have hof:∀n:Nat,n<10->(UInt8.ofNat (48+n)).toNat=48+n:=λn hn=>by simp;omega
  rw[pJ];split;rename_i h1;refine⟨by simp[cN,hof u h1];omega,by simp,?_⟩;intro he;simp only[List.head?_cons,aO]at he;have:=congrArg UInt8.toNat he;rw[hof u h1]at this;simp at this;omega;obtain⟨a,b,c⟩:=yL f (u / 10) (by omega) (by rw[Nat.pow_succ]at hu;omega);refine⟨?_,by simp,?_⟩;rw[List.all_append,a];simp[cN,hof (u % 10) (by omega)];omega;cases hx:pJ f (u / 10) with
  |nil=>exact absurd hx b
  |cons x r=>rw[hx]at c;simpa using c
def jJ(t:List UInt8):Bool:=
 match Lib.atoiAll t with
 |.ok v=>decide (0<v)&&decide ((t.length:Int)+1<=10)&&decide (pJ 20 v.toNat=t)
 |_=>false
theorem IR(t:List UInt8):jJ t=(decide (2<=t.length+1)&&decide (t.length+1<=10) && !decide (t.head?=some 48)&&t.all cN):=by
 cases hr:(decide (2<=t.length+1)&&decide (t.length+1<=10) && !decide (t.head?=some 48)&&t.all cN);cases ha:jJ t;rfl;exfalso;simp only[jJ]at ha;split at ha;rename_i v hv;simp only[aD,aQ]at ha;obtain⟨⟨h1,h2⟩,h3⟩:=ha;obtain⟨hb1,hb2⟩:v.toNat<10 ^ 20/\0<v.toNat:=by
  have hv2:v.toNat<18446744073709551616:=by
   cases t with
   |nil=>simp[Lib.atoiAll]at hv
   |cons c r=>
    simp only[Lib.atoiAll]at hv;split at hv;cases hv;cases hv;rename_i u hu;have:=Lib.parseMag_lt hu;split at hv;cases hv;split at hv;cases hv;injection hv with hv
    split at hv<;>omega
  exact⟨by omega,by omega⟩
 obtain⟨a,b,c⟩:=yL 20 v.toNat hb2 hb1;rw[h3]at a b c;have hlen:0<t.length:=List.length_pos_iff.2 b;simp[a,c]at hr;omega;cases ha;simp only[aD,iB,aQ,nL]at hr;obtain⟨⟨⟨h1,h2⟩,h3⟩,h4⟩:=hr;have h0:t≠[]:=by rintro rfl;simp at h1
 have hlt:=GY t 0 h4;have hpow:(10:Nat) ^ t.length<=10 ^ 9:=Nat.pow_le_pow_right (by decide) (by omega);have hsm:i7 0 t<1844674407370955162:=by
  have:(10:Nat) ^ 9=1000000000:=by decide
  omega
 have hp:=rR t 0 h4 hsm;have hpos:=BI h4 h0 h3;have hv:Lib.atoiAll t = .ok ((i7 0 t:Nat):Int):=by
  cases t with
  |nil=>exact absurd rfl h0
  |cons c r=>
   have hc:cN c=true:=by simp only[List.all_cons,aD]at h4;exact h4.1
   simp only[cN,aD,aQ]at hc;simp only[Lib.atoiAll];rw[if_neg (by omega)];simp only[Lib.parseMag];rw[if_neg (by simp),hp];simp only;rw[if_neg (by omega),if_neg (by omega),if_neg (by omega)]
 have hd:=GX t.length 20 t rfl (by omega) h4 h0 h3;simp only[jJ,hv,Int.toNat_natCast,hd,decide_true,Bool.and_true,aD,aQ];omega
end
section
def mW(args:List AV)(_:Nat)(h:Hp):Option (AV×Hp):=
 match args with
 |[.str s]=>
  if s.length<=16777216 then
   match Lib.atoiAll s with
   |.ok v=>some (.tup [.int .i64 v,.nili],h)
   |.range=>some (.tup [.int .i64 (Lib.atoiSat s),.ifc .top],h)
   |_=>some (.tup [.int .i64 0,.ifc .top],h)
  else none
 |_=>none
def nW(args:List AV)(_:Nat)(h:Hp):Option (AV×Hp):=
 match args with
 |[.int .i64 n]=>if 0<=n/\n<=9223372036854775807 then some (.str (pJ 20 n.toNat),h) else none
 |_=>none
def nV:List AV->Option (List Int)
 |[]=>some []
 |.int .i64 n::r=>(nV r).map (n :: ·)
 |_=>none
def pG(args:List AV)(_:Nat)(h:Hp):Option (AV×Hp):=
 match args with
 |[.sl _ [] _]=>some (.tup [],h)
 |[.rf k e off len _]=>
  match h.get k with
  |some (e',.blk cs 1 false ti false)=>
   if e'=e/\off+len<=cs.length/\len<=16777216 then
    match nV ((cs.drop off).take len) with
    |some zs=>some (.tup [],h.put k e (.blk (eA cs off ((eD zs).map aE)) 1 false ti false))
    |none=>none
   else none
  |_=>none
 |_=>none
def pH(args:List AV)(_:Nat)(h:Hp):Option (AV×Hp):=
 match args with
 |[.sl nl [] cl]=>some (.sl nl [] cl,h)
 |[.rf k e off len cap]=>
  match h.get k with
  |some (e',.blk cs 1 false ti false)=>
   if e'=e/\off+len<=cs.length/\len<=16777216 then
    match nV ((cs.drop off).take len) with
    |some zs=>some (.rf k e off (bU zs).length cap,h.put k e (.blk (eA cs off ((bU zs++List.replicate (zs.length-(bU zs).length) 0).map aE)) 1 false ti false))
    |none=>none
   else none
  |_=>none
 |_=>none
theorem rD:∀l:List Int,nV (l.map aE)=some l
 |[]=>rfl
 |x::r=>by simp[nV,aE,rD r]
structure Ora(pg:Pg):Prop where
 f92:pg.fs 92=none
 f93:pg.fs 93=none
 f75:pg.fs 75=none
 f76:pg.fs 76=none
 atoi:pg.ex 92=some mW
 itoa:pg.ex 93=some nW
 sort:pg.ex 75=some pG
 comp:pg.ex 76=some pH
structure aHm(pg:Pg):Prop where
 f92:pg.fs 92=none
 f93:pg.fs 93=none
 atoi:pg.ex 92=some mW
 itoa:pg.ex 93=some nW
section
variable{pg:Pg}
theorem Ora.n(A:Ora pg):aHm pg:=⟨A.f92,A.f93,A.atoi,A.itoa⟩
theorem vX{f:Nat}{g:List AV->Nat->Hp->Option (AV×Hp)}(hf:pg.fs f=none)(hx:pg.ex f=some g){vs:List AV}{kb:Nat}{h h':Hp}{r:AV}(hg:g vs kb h=some (r,h')):pN pg f vs kb h r h':=
 ⟨1,by simp only[aV,hf,hx,hg]⟩
theorem C1{f:Nat}{g:List AV->Nat->Hp->Option (AV×Hp)}(hf:pg.fs f=none)(hx:pg.ex f=some g){vs:List AV}{r:AV}(hg:g vs 0 []=some (r,[]))(hr:r.tree=true):Ret pg f vs r:=
 ⟨1,by simp only[bL,aV,hf,hx,hg,uD hr]⟩
theorem IQ(A:Ora pg):TB pg where
 sort:=by
  intro kb h k e l hg hb;refine vX A.f75 A.sort ?_;simp only[big]at hb;simp only[pG,hg,bD,Nat.zero_add,List.drop_zero];rw[if_pos ⟨trivial,Nat.le_refl _,hb⟩,List.take_of_length_le (by simp),rD];have hd:List.drop l.length (l.map aE)=[]:=by rw[List.drop_eq_nil_iff];simp
  simp[eA,gU,hd]
 sortN:=by intro kb h nl cl;exact vX A.f75 A.sort rfl
 comp:=by
  intro kb h k e l hg hb;refine⟨(List.replicate (l.length-(bU l).length) 0).map aE,vX A.f76 A.comp ?_⟩;simp only[big]at hb;have hc:=lQ l;simp only[pH,hg,bD,Nat.zero_add,List.drop_zero];rw[if_pos ⟨trivial,Nat.le_refl _,hb⟩,List.take_of_length_le (by simp),rD];simp only[eA,List.take_zero,List.nil_append,Nat.zero_add];have hd:List.drop ((bU l++List.replicate (l.length-(bU l).length) 0).map aE).length (l.map aE)=[]:=by rw[List.drop_eq_nil_iff];simp;omega
  rw[hd,List.append_nil,List.map_append]
 compN:=by intro kb h nl cl;exact vX A.f76 A.comp rfl
def nm:Bool->List UInt8->Bool
 |_,[]=>true
 | fst,c::r=>(fA c||(!fst&&cN c))&&nm false r
theorem QK:∀r,nm false r=r.all (λx=>fA x||cN x)
 |[]=>rfl
 |c::r=>by simp[nm,QK r]
theorem GE{s:List UInt8}(h:s.head? ≠ some 95):jC s=(nm true s&&(!decide (s=[])&&decide ((s.length:Int)<=30))):=by
 cases s with
 |nil=>rfl
 |cons c t=>
  have hc:c≠95:=λe=>h (by simp[e]);simp only[jC,if_neg hc,nm,QK];have:decide ((c::t).length<=30)=decide (((c::t).length:Int)<=30):=by rw[dY];omega
  rw[this];cases fA c<;>cases (t.all λx=>fA x||cN x)<;>cases decide (((c::t).length:Int)<=30)<;>rfl
theorem GD(t:List UInt8):jC (95::t)=jJ t:=by
 rw[IR];simp only[jC,if_true,List.length_cons];cases h:decide (t.length+1<=10);simp;have:t.length+1<=30:=by simp at h;omega
 simp[this]
set_option maxHeartbeats 8000000 in
theorem aOb(A:aHm pg)(hf:pg.fs 57=some ON)(h91:pg.fs 91=some J7)(h126:pg.fs 126=some vJ)(s:Str):Ret pg 57 [.str s.bs] (.bool (jC s.bs)):=by
 obtain⟨s,hb⟩:=s;have a91:=c91 h91 h126 s [95];have hb':s.length<=16777216:=by simpa[big] using hb
 refine Ret.ofX hf ?_;unfold ON;refine Wk ?_;refine aC a91 ?_;cases hu:(decide ([(95:UInt8)].length<=s.length)&&decide (s.take [(95:UInt8)].length=[95]))
 case true=>
  obtain⟨t,rfl⟩:∃t,s=95::t:=by
   cases s with
   |nil=>simp at hu
   |cons c t=>simp at hu;exact⟨t,by rw[hu]⟩
  have hlen:(((95:UInt8)::t).length:Int)=(t.length:Int)+1:=by simp
  have hlen2:((t.length+1:Nat):Int)=(t.length:Int)+1:=by simp
  have hs1:∀h,u6 true false [.str (95::t),.int .i64 1]=some (.str t,.pat [] [])/\h=h:=fun(h:Hp)=>by refine⟨?_,rfl⟩;simp only[u6,iK,Bool.false_eq_true,if_false,if_true,Option.getD_none,Option.getD_some];rw[if_pos ⟨by omega,by simp;omega,by omega⟩];simp[val]
  have hs2:=(hs1 []).1;have hn:jC (95::t)=jJ t:=GD t;have htl:t.length<=16777216:=by simp at hb';omega
  have hex:mW [.str t] 0 []=(match Lib.atoiAll t with|.ok v=>some (.tup [.int .i64 v,.nili],[])|.range=>some (.tup [.int .i64 (Lib.atoiSat t),.ifc .top],[])|_=>some (.tup [.int .i64 0,.ifc .top],[])):=by simp only[mW];rw[if_pos htl]
  rw[hn];simp only[↓hs2,go_sem,seval];cases hat:Lib.atoiAll t
  case range=>rw[hat]at hex;refine aC (C1 A.f92 A.atoi hex (by simp[AV.tree,treeL])) (Wk ?_);refine bI ?_;simp only[jJ,hat]
  case ok v=>
   rw[hat]at hex;refine aC (C1 A.f92 A.atoi hex (by simp[AV.tree,treeL])) ?_;have hres:jJ t=(decide (0<v)&&decide ((t.length:Int)+1<=10)&&decide (pJ 20 v.toNat=t)):=by simp only[jJ,hat]
   rw[hres];cases b1:decide (0<v)
   case false=>
    simp only[b1,go_sem,seval]
    first|(refine bI ?_;rfl)|kernel_rfl
   have hv0:0<v:=by simpa using b1
   have hvb:=Lib.atoiAll_bounds hat;have hit:Ret pg 93 [.int .i64 v] (.str (pJ 20 v.toNat)):=by refine C1 A.f93 A.itoa ?_ rfl;simp only[nW];rw[if_pos (by omega)]
   cases b2:decide ((t.length:Int)+1<=10)
   case false=>
    simp only[b1,hlen,hlen2,b2,go_sem,seval]
    first|(refine bI ?_;rfl)|kernel_rfl
   simp only[b1,hlen,hlen2,b2,go_sem,seval];refine aC hit ?_;simp only[↓hs2,go_sem,seval]
   first|(refine bI ?_;rfl)|kernel_rfl
  rw[hat]at hex;refine aC (C1 A.f92 A.atoi hex (by simp[AV.tree,treeL])) (Wk ?_);refine bI ?_;simp only[jJ,hat]
 case false=>
  have hh:s.head? ≠ some 95:=by
   intro he;cases s with
   |nil=>simp at he
   |cons c t=>simp at he;subst he;simp at hu
  rw[GE hh];refine Wk ?_;refine fP s (λd e=>eN e (some 36) (.int .i64 d.length)) (λd r hp=>nm true s=nm d.isEmpty r) rfl ?_ ?_ ?_;rfl;rintro hp hI;have:nm true s=true:=by rw[hI];simp[nm]
  rw[this];cases c1:decide (s=[]);simp only[EH,EG,c1,go_sem,seval];simp only[EH,EG,c1,go_sem,seval]
  ·rintro d c r hp hes hI;rw[hes]at hb hI;have hw:=cW hb;rw[hes];have hnm:nm true (d++c::r)=((fA c||(!d.isEmpty&&cN c))&&nm false r):=hI;have hde:decide ((d.length:Int)=0)=d.isEmpty:=by
    cases d with
    |nil=>simp
    |cons x r=>simp;omega
   have happ:(d++[c]).isEmpty=false:=by simp
   have hlet:fA c=(!(decide ((c.toNat:Int)<97)) && !(decide ((122:Int)<c.toNat))):=by simp only[fA];by_cases h1:97<=c.toNat<;>by_cases h2:c.toNat<=122<;>simp[h1,h2]<;>omega
   have hdig:cN c=(!(decide ((c.toNat:Int)<48)) && !(decide ((57:Int)<c.toNat))):=by simp only[cN];by_cases h1:48<=c.toNat<;>by_cases h2:c.toNat<=57<;>simp[h1,h2]<;>omega
   rw[hlet,hdig]at hnm;clear hlet hdig hI hes a91 hu hh hb';cases e1:decide ((c.toNat:Int)<97)<;>cases e2:decide ((122:Int)<c.toNat)<;>cases e3:d.isEmpty<;>cases e4:decide ((c.toNat:Int)<48)<;>cases e5:decide ((57:Int)<c.toNat)
   all_goals (rw[e1,e2,e3,e4,e5]at hnm)
   all_goals (rw[e3]at hde)
   all_goals (simp only[Bool.not_true,Bool.not_false,Bool.and_true,Bool.and_false,Bool.or_true,Bool.or_false,Bool.true_and,Bool.false_and]at hnm)
   all_goals (rw[hnm])
   all_goals (simp only[EH,EG,e1,e2,hde,e4,e5,hw,happ,go_sem,seval])
theorem c57(A:Ora pg)(hf:pg.fs 57=some ON)(h91:pg.fs 91=some J7)(h126:pg.fs 126=some vJ)(s:Str):Ret pg 57 [.str s.bs] (.bool (jC s.bs)):=aOb A.n hf h91 h126 s
end
end
section
open Go.Sort
theorem A4(x:Int):∀l,(vT x l).Perm (x::l)
 |[]=>List.Perm.refl _
 |y::r=>by simp only[vT];split;exact List.Perm.refl _;exact((A4 x r).cons y).trans (List.Perm.swap x y r)
theorem xB:∀l,(eD l).Perm l
 |[]=>List.Perm.refl _
 |x::r=>(A4 x _).trans ((xB r).cons x)
theorem u3(x:Int):∀l:List Int,l.Pairwise (· <= ·)->(vT x l).Pairwise (· <= ·)
 |[],_=>by simp[vT]
 |y::r,h=>by simp only[vT];rw[List.pairwise_cons]at h;split;rename_i hxy;rw[List.pairwise_cons];refine⟨?_,List.pairwise_cons.2 h⟩;intro a ha;rcases List.mem_cons.1 ha with rfl|ha;exact hxy;exact Int.le_trans hxy (h.1 a ha);rename_i hxy;rw[List.pairwise_cons];refine⟨?_,u3 x r h.2⟩;intro a ha;rcases (xX x a r).1 ha with rfl|ha;omega;exact h.1 a ha
theorem lG:∀l:List Int,(eD l).Pairwise (· <= ·)
 |[]=>List.Pairwise.nil
 |x::r=>u3 x _ (lG r)
theorem qL:∀{a b:List Int},a.Perm b->a.Pairwise (· <= ·)->b.Pairwise (· <= ·)->a=b
 |[],b,h,_,_=>(List.Perm.nil_eq h)
 |x::r,[],h,_,_=>absurd h.symm.nil_eq (by simp)
 |x::r,y::s,h,ha,hb=>by
  rw[List.pairwise_cons]at ha hb;have h1:x<=y:=by have:y∈x::r:=h.symm.subset (by simp);rcases List.mem_cons.1 this with rfl|hy;exact Int.le_refl _;exact ha.1 y hy
  have h2:y<=x:=by have:x∈y::s:=h.subset (by simp);rcases List.mem_cons.1 this with rfl|hx;exact Int.le_refl _;exact hb.1 x hx
  obtain rfl:x=y:=by omega
  rw[qL (List.Perm.cons_inv h) ha.2 hb.2]
theorem PT(l:List Int):(l.mergeSort λx y=>decide (x<=y))=eD l:=by refine qL ((List.mergeSort_perm l _).trans (xB l).symm) ?_ (lG l);have:=List.pairwise_mergeSort (le:=λx y:Int=>decide (x<=y)) (by intro a b c h1 h2;simp at *;omega) (by intro a b;simp;omega) l;exact this.imp (by intro a b h;simpa using h)
theorem yO(x:Int):∀l:List Int,bU (l++[x])=bU l++(if l.getLast?=some x then [] else [x])
 |[]=>by simp[bU]
 |[a]=>by simp only[List.cons_append,List.nil_append,bU,List.getLast?_singleton,aO];split<;>simp[*]
 |a::b::r=>by have ih:=yO x (b::r);simp only[List.cons_append]at ih ⊢;simp only[bU,ih,List.getLast?_cons_cons];split<;>simp
theorem sB(zs:List Int):∀m,m<=zs.length->Lib.compactUpTo zs.toArray m=bU (zs.take m)
 |0,_=>by simp[Lib.compactUpTo,bU]
 |m+1,h=>by
  have ih:=sB zs m (by omega);have hm:zs.toArray[m]! = zs[m]'(by omega):=by rw[getElem!_pos _ _ (by simp;omega)];simp
  rw[List.take_succ_eq_append_getElem (by omega),yO,<-ih];simp only[Lib.compactUpTo,List.range_succ,List.filter_append,List.map_append];congr 1;cases m with
  |zero=>simp[Lib.keeps,hm];rw[bJ (by omega)];rfl
  |succ k=>
   have hk:zs.toArray[k]! = zs[k]'(by omega):=by rw[getElem!_pos _ _ (by simp;omega)];simp
   have hl:(zs.take (k+1)).getLast?=some (zs[k]'(by omega)):=by rw[List.take_succ_eq_append_getElem (by omega)];exact List.getLast?_concat
   simp only[List.filter_cons,List.filter_nil,Lib.keeps,hm,hl];by_cases he:zs[k+1]'(by omega)=zs[k]'(by omega);simp[hk,he];have he':¬zs[k]'(by omega)=zs[k+1]'(by omega):=λh=>he h.symm;simp[hk,he,he',hm];rw[bJ (by omega)];rfl
theorem J4(zs:List Int):Lib.compact zs=bU zs:=by rw[Lib.compact,sB zs zs.length (Nat.le_refl _),List.take_length]
theorem pK:∀(f u:Nat),u<10 ^ f->Lib.decDigits u=pJ f u\/f=0
 |0,u,_ => .inr rfl
 |f+1,u,h=>by left;rw[pJ,Lib.decDigits];by_cases h1:u<10;rw[dif_pos h1,if_pos h1];rw[dif_neg h1,if_neg h1];rcases pK f (u / 10) (by rw[Nat.pow_succ]at h;omega) with h2|h2;rw[h2];subst h2;simp at h;omega
theorem N1{n:Int}(h0:0<=n)(h1:n<=9223372036854775807):Lib.itoa n=pJ 20 n.toNat:=by rw[Lib.itoa,if_neg (by omega)];rcases pK 20 n.toNat (by omega) with h|h;exact h;cases h
section
variable{P:Program}{num:Nm}{gl:Nat->Option AV}{gnum:Nat->Nat}{Fb:Nat->Prop}{B0:Nat}{ρ : Rho}{w w':World}{O:Nat->Prop}{h:Hp}
theorem j2(H:HpR num Fb B0 ρ w O h)(hb:RowKit.Below w.heap.size w w'):Evo ρ w O ρ w' O/\HpR num Fb B0 ρ w' O h:=by
 have ev:Evo ρ w O ρ w' O:=⟨hb.os,hb.tape,hb.output,hb.size,λb h1 _=>hb.block b h1,λ_ _ h=>h,λ_ _ _ h=>h⟩
 exact⟨ev,H.same ev (λb hO=>hb.block b (H.own b hO).2)⟩
def sZ (P:Program) (f:Nat):Prop:=∃fn,P.funcs[f]?=some fn/\fn.body.isSome=true/\fn.name ≠ "runtime.NumGoroutine"
theorem kW{R:AV->Value->Prop}{x:AV}{vs:List Value}(h:aI R [x] vs):∃c,vs=[c]/\R x c:=by
 cases h with
 |cons h1 h2=>cases h2;exact⟨_,rfl,h1⟩
theorem aEu(hfn:sZ P (num 93))(g:Nat)(hg:gl g=some (.agg (Lib.pow10Tab.map λn => .int .u64 n)))
  (hc:∀(n:Int),0<=n->n<=9223372036854775807->∀w:World,(∃T fr,w.heap[gnum g]?=some (.cells (Lib.pow10Tab.map λz=>Value.int .u64 z).toArray T fr)) ->
   Calls P (num 93) #[.int .i64 n] w λe w'=>e = .returned (.string ⟨(Lib.itoa n).toArray⟩)/\RowKit.Below w.heap.size w w') :
  fB P num gl gnum ⟨λf' avs kb h=>if f'=93 then nW avs kb h else none,λ_ _ _ _=>none⟩:=by
 intro f avs kb h r h' hr;dsimp only at hr;split at hr
 case isFalse=>cases hr
 rename_i hf;subst hf;refine⟨hfn,?_⟩;intro Fb B0 ρ O w vs H hG hv;unfold nW at hr;split at hr
 case h_2=>cases hr
 rename_i n;split at hr
 case isFalse=>cases hr
 rename_i hn;cases hr;obtain⟨c,rfl,hrv⟩:=kW hv;cases hrv
 have htab:∃T fr,w.heap[gnum g]?=some (.cells (Lib.pow10Tab.map λz=>Value.int .u64 z).toArray T fr):=by
  obtain⟨⟨_,c,T,fr,h1,h2⟩,hp⟩:=hG g _ hg;refine⟨T,fr,?_⟩;rw[h1];have hsz:c.size=Lib.pow10Tab.length:=by rw[h2];simp[AV.cells]
  have hce:c=(Lib.pow10Tab.map λz=>Value.int .u64 z).toArray:=by
   apply Array.ext;simp[hsz];intro i hi1 hi2;obtain⟨b,off,m,hx,hF,hb,hm,hr⟩:=hp.of_fp;cases hx;have hil:i<Lib.pow10Tab.length:=by omega
   have h3:=hm i (by simp only[AV.cells,bD];exact hil);have h4:=hr i (.int .u64 (Lib.pow10Tab[i]'hil)) (by simp only[AV.cells,List.getElem?_map,bJ hil];rfl);rw[Nat.zero_add]at h3;simp only[World.cell?,h1,Option.isSome_none,Bool.false_eq_true,if_false,Array.getElem?_eq_getElem hi1,aO]at h3;rw[<-h3]at h4;have h5:=h4.of_int;rw[h5];simp
  rw[hce]
 refine(hc n hn.1 hn.2 w htab).mono ?_;rintro e w' ⟨rfl,hb⟩;obtain⟨ev,H'⟩:=j2 H hb;refine⟨_,ρ,O,rfl,ev,H',?_⟩;rw[N1 hn.1 hn.2];exact .str _
theorem aEK(hfn:sZ P (num 92))(g1 g2:Nat)(hg1:gl g1=some (.ifc .top))(hg2:gl g2=some (.ifc .top))
  (hok:∀(s:List UInt8),s.length<=16777216->∀v,Lib.atoiAll s = .ok v->∀w:World,Calls P (num 92) #[.string ⟨s.toArray⟩] w λe w'=>e = .returned (.tuple #[.int .i64 v,.nilIface])/\RowKit.Below w.heap.size w w')
  (hsy:∀(s:List UInt8),s.length<=16777216->(∀v,Lib.atoiAll s ≠ .ok v)->Lib.atoiAll s ≠ .range->∀(w:World)(te:TypeId)(pe:Value),w.cell? ⟨gnum g1,0,none⟩=some (.iface te pe) ->
   Calls P (num 92) #[.string ⟨s.toArray⟩] w λe w'=>∃t p,e = .returned (.tuple #[.int .i64 0,.iface t p])/\RowKit.Below w.heap.size w w')
  (hra:∀(s:List UInt8),s.length<=16777216->Lib.atoiAll s = .range->∀(w:World)(te:TypeId)(pe:Value),w.cell? ⟨gnum g2,0,none⟩=some (.iface te pe) ->
   Calls P (num 92) #[.string ⟨s.toArray⟩] w λe w'=>∃t p,e = .returned (.tuple #[.int .i64 (Lib.atoiSat s),.iface t p])/\RowKit.Below w.heap.size w w') :
  fB P num gl gnum ⟨λf' avs kb h=>if f'=92 then mW avs kb h else none,λ_ _ _ _=>none⟩:=by
 intro f avs kb h r h' hr;dsimp only at hr;split at hr
 case isFalse=>cases hr
 rename_i hf;subst hf;refine⟨hfn,?_⟩;intro Fb B0 ρ O w vs H hG hv;have hcell:∀g,gl g=some (.ifc .top)->∃te pe,w.cell? ⟨gnum g,0,none⟩=some (.iface te pe):=by
  intro g hg;obtain⟨_,hp⟩:=hG g _ hg;cases hp with
  |fp _ _ _ c hF hb hm hr=>have h1:=hm 0 (by simp[AV.cells]);have h2:=hr 0 (.ifc .top) (by simp[AV.cells]);simp only[Nat.add_zero]at h1;rw[h1];generalize c 0=ci at h2 ⊢;cases h2;exact⟨_,_,rfl⟩
 unfold mW at hr;split at hr
 case h_2=>cases hr
 rename_i s;split at hr
 case isFalse=>cases hr
 rename_i hs;obtain⟨c,rfl,hrv⟩:=kW hv;cases hrv;split at hr;rename_i v ha;cases hr;refine(hok s hs v ha w).mono ?_;rintro e w' ⟨rfl,hb⟩;obtain⟨ev,H'⟩:=j2 H hb;refine⟨_,ρ,O,rfl,ev,H',?_⟩;refine .tup _ _ rfl ?_;intro i x y hx hy
 match i,hx,hy with
 |0,hx,hy=>simp at hx hy;subst hx;subst hy;exact .int _ _
 |1,hx,hy=>simp at hx hy;subst hx;subst hy;exact .nili
 |i+2,hx,hy=>simp at hx
 rename_i ha;cases hr;obtain⟨te,pe,hce⟩:=hcell g2 hg2;refine(hra s hs ha w te pe hce).mono ?_;rintro e w' ⟨t,p,rfl,hb⟩;obtain⟨ev,H'⟩:=j2 H hb;refine⟨_,ρ,O,rfl,ev,H',?_⟩;refine .tup _ _ rfl ?_;intro i x y hx hy
 match i,hx,hy with
 |0,hx,hy=>simp at hx hy;subst hx;subst hy;exact .int _ _
 |1,hx,hy=>simp at hx hy;subst hx;subst hy;exact .ifc _ _ _ (.top _)
 |i+2,hx,hy=>simp at hx
 rename_i ha1 ha2;cases hr;obtain⟨te,pe,hce⟩:=hcell g1 hg1;refine(hsy s hs (λv e=>ha1 v e) (λe=>ha2 e) w te pe hce).mono ?_;rintro e w' ⟨t,p,rfl,hb⟩;obtain⟨ev,H'⟩:=j2 H hb;refine⟨_,ρ,O,rfl,ev,H',?_⟩;refine .tup _ _ rfl ?_;intro i x y hx hy
 match i,hx,hy with
 |0,hx,hy=>simp at hx hy;subst hx;subst hy;exact .int _ _
 |1,hx,hy=>simp at hx hy;subst hx;subst hy;exact .ifc _ _ _ (.top _)
 |i+2,hx,hy=>simp at hx
theorem tN:∀{cs:List AV}{zs:List Int},nV cs=some zs->cs=zs.map aE
 |[],zs,h=>by simp[nV]at h;subst h;rfl
 |x::r,zs,h=>by
  cases x with
  |int k n=>
   cases k<;>simp only[nV]at h
   case i64=>simp only[iC]at h;obtain⟨l,h1,rfl⟩:=h;rw[tN h1];rfl
   all_goals cases h
  |_=>simp[nV]at h
end
end
section
open Go.Sort
section
variable{P:Program}{num:Nm}{gl:Nat->Option AV}{gnum:Nat->Nat}{Fb:Nat->Prop}{B0:Nat}{ρ : Rho}{w w':World}{O:Nat->Prop}{h:Hp}
theorem Rv.int_eq{F:Nat->Prop}{n:Int}{y:Value}(h:Rv num ρ w F (aE n) y):y = .int .i64 n:=by have h':Rv num ρ w F (.int .i64 n) y:=h;cases h';rfl
theorem F3{k e off len:Nat}{cs:List AV}{esz:Nat}{ag ti fz:Bool}{L:Loc}{zs:List Int}(H:HpR num Fb B0 ρ w O h)(hg:h.get k=some (e,.blk cs esz ag ti fz))(hL : ρ k e=some L)
  (hz:(cs.drop off).take len=zs.map aE) (hl:off+len<=cs.length):Holds (Value.int .i64) w L.b (L.base+off) zs.toArray/\L.b<w.heap.size/\zs.length=len:=by
 obtain⟨L0,c,T,h1,h2,h3,h4,h5,h6,h7,h8,h9,h10⟩:=H.blk _ _ _ _ _ _ _ hg;rw[h1]at hL;cases hL;have hzl:zs.length=len:=by have:=congrArg List.length hz;simp at this;omega
 refine⟨?_,?_,hzl⟩;intro j hj;have hj':j<zs.length:=by simpa using hj
 have hx:cs[off+j]?=some (aE (zs[j]'hj')):=by have:=congrArg (λl:List AV=>l[j]?) hz;simp only[List.getElem?_map,List.getElem?_take,List.getElem?_drop,bJ hj',Option.map_some]at this;rw[if_pos (by omega)]at this;exact this
 obtain⟨y,hy,hr⟩:=h7 _ _ hx;have hy2:=hr.int_eq;subst hy2;refine⟨?_,?_⟩;simp only[World.cell?,h4,Option.isSome_none,Bool.false_eq_true,if_false];rw[Nat.add_assoc,hy,getElem!_pos zs.toArray j hj];simp;simp[World.frozen?,h4];by_cases hlt:L.b<w.heap.size;exact hlt;simp[Array.getElem?_eq_none (Nat.le_of_not_lt hlt)]at h4
theorem P1{k e off len n:Nat}{cs:List AV}{esz:Nat}{ag ti:Bool}{L:Loc}{zs:List Int}(H:HpR num Fb B0 ρ w O h)(hg:h.get k=some (e,.blk cs esz ag ti false))(hL : ρ k e=some L)
  (hz:zs.length=len) (hl:off+len<=cs.length) :
  Evo ρ w O ρ (putRow (Value.int .i64) (Sort.ahead w n) L.b (L.base+off) zs.toArray) O/\HpR num Fb B0 ρ (putRow (Value.int .i64) (Sort.ahead w n) L.b (L.base+off) zs.toArray) O (h.put k e (.blk (eA cs off (zs.map aE)) esz ag ti false)):=by
 obtain⟨L0,c,T,h1,h2,h3,h4,h5,h6,h7,h8,h9,h10⟩:=H.blk _ _ _ _ _ _ _ hg;rw[h1]at hL;cases hL
 have hget:∀i,(putCells (Value.int .i64) (L.base+off) zs.toArray c)[i]?=(c[i]?).map λx=>if L.base+off<=i/\i<L.base+off+zs.length then .int .i64 zs.toArray[i-(L.base+off)]! else x:=by intro i;simp only[putCells,Array.getElem?_mapIdx,List.size_toArray]
 refine H.write (c':=putCells (Value.int .i64) (L.base+off) zs.toArray c) (T:=T) hg h1 ⟨rfl,rfl,rfl,?_,?_,?_⟩ ?_ ?_ ?_;simp[putRow,mapBlock,Sort.ahead];simp only[putRow,mapBlock,Sort.ahead,Array.getElem?_modify,if_true,h4,Option.map_some,onCells];intro b hb;simp only[putRow,mapBlock,Sort.ahead,Array.getElem?_modify];rw[if_neg (λh=>hb h.symm)];simp only[putCells,Array.size_mapIdx];exact h5;simp only[eA,dZ,List.length_take,List.length_drop,bD];omega;intro i x hx;rw[hget];simp only[eA,List.append_assoc]at hx;by_cases hi1:i<off;rw[List.getElem?_append_left (by simp;omega),List.getElem?_take,if_pos hi1]at hx;obtain⟨y,hy,hr⟩:=h7 _ _ hx;refine⟨y,?_,hr⟩;rw[hy,Option.map_some,if_neg (by omega)];rw[wV (by simp;omega)]at hx;have htk:(cs.take off).length=off:=by simp;omega
 rw[htk]at hx;by_cases hi2:i<off+len;rw[List.getElem?_append_left (by simp;omega),List.getElem?_map]at hx;have hlt:i-off<zs.length:=by omega
 rw[bJ hlt,Option.map_some]at hx;cases hx;have hcs:i<cs.length:=by omega
 obtain⟨y,hy,_⟩:=h7 i _ (bJ hcs);refine⟨_,by rw[hy,Option.map_some,if_pos (by omega)],?_⟩;have e1:L.base+i-(L.base+off)=i-off:=by omega
 rw[e1,getElem!_pos zs.toArray (i-off) (by simpa using hlt)];simp only[List.getElem_toArray];exact .int _ _;rw[wV (by simp;omega),List.getElem?_drop]at hx;have e2:off+(zs.map aE).length+(i-off-(zs.map aE).length)=i:=by simp;omega
 rw[e2]at hx;obtain⟨y,hy,hr⟩:=h7 _ _ hx;refine⟨y,?_,hr⟩;rw[hy,Option.map_some,if_neg (by omega)]
theorem JR(w:World)(os:Array Obj):RowKit.Below w.heap.size w (grow w os) where
 os:=rfl
 tape:=rfl
 output:=rfl
 size:=by simp[grow]
 block:=λk hk=>by simp[grow,Array.getElem?_append_left hk]
theorem aDq(hfn:sZ P (num 75))
  (hc:∀(blk off cap:Nat)(zs:List Int)(w:World),Holds (Value.int .i64) w blk off zs.toArray->blk<w.heap.size->zs.length<=16777216 ->
   Calls P (num 75) #[.slice (some ⟨blk,off,none⟩) zs.length cap] w λe w'=>e = .returned (.tuple #[])/\∃n os,w'=grow (putRow (Value.int .i64) (Sort.ahead w n) blk off (eD zs).toArray) os)
  (hn:∀(p:Option Addr)(cap:Nat)(w:World),Calls P (num 75) #[.slice p 0 cap] w λe w'=>e = .returned (.tuple #[])/\w'=w) :
  fB P num gl gnum ⟨λf' avs kb h=>if f'=75 then pG avs kb h else none,λ_ _ _ _=>none⟩:=by
 intro f avs kb h r h' hr;dsimp only at hr;split at hr
 case isFalse=>cases hr
 rename_i hf;subst hf;refine⟨hfn,?_⟩;intro Fb B0 ρ O w vs H hG hv;have htup:∀{ρ : Rho}{w:World}{F:Nat->Prop},Rv num ρ w F (.tup []) (.tuple #[]):=.tup _ _ rfl (λi x y hx=>by simp at hx);unfold pG at hr;split at hr;cases hr;obtain⟨c,rfl,hrv⟩:=kW hv;have:∃p cap,c = .slice p 0 cap:=by cases hrv<;>exact⟨_,_,rfl⟩
 obtain⟨p,cap,rfl⟩:=this;refine(hn p cap w).mono ?_;rintro e w' ⟨rfl,rfl⟩;exact⟨_,ρ,O,rfl,Evo.refl _ _ _,H,htup⟩;rename_i k e off len cap;split at hr
 case h_2=>cases hr
 rename_i e' cs ti hg;split at hr
 case isFalse=>cases hr
 rename_i hcond;obtain⟨rfl,hle,hbig⟩:=hcond;split at hr
 case h_2=>cases hr
 rename_i zs hzs;cases hr;obtain⟨c,rfl,hrv⟩:=kW hv;cases hrv with
 |rf _ _ _ _ _ cap' L hL hlen hcap ht hroom=>obtain⟨hH,hb,hzl⟩:=F3 H hg hL (tN hzs) hle;have hcall:=hc L.b (L.base+off) cap' zs w hH hb (by omega);rw[hzl]at hcall;refine hcall.mono ?_;rintro e w' ⟨rfl,n,os,rfl⟩;obtain⟨ev,H1⟩:=P1 (n:=n) H hg hL (zs:=eD zs) (by rw[gU];exact hzl) hle;obtain⟨ev2,H2⟩:=j2 H1 (JR _ os);exact⟨_,ρ,O,rfl,ev.trans ev2,H2,htup⟩
 cases hr
theorem aEC(hfn:sZ P (num 76))
  (hc:∀(blk off cap:Nat)(zs:List Int)(w:World),Holds (Value.int .i64) w blk off zs.toArray->zs.length<=16777216->zs.length<=cap ->
   Calls P (num 76) #[.slice (some ⟨blk,off,none⟩) zs.length cap] w λe w'=>e = .returned (.slice (some ⟨blk,off,none⟩) (bU zs).length cap)/\∃q,w'=putRow (Value.int .i64) (Sort.ahead w q) blk off (bU zs++List.replicate (zs.length-(bU zs).length) 0).toArray)
  (hn:∀(p:Option Addr)(cap:Nat)(w:World),Calls P (num 76) #[.slice p 0 cap] w λe w'=>e = .returned (.slice p 0 cap)/\w'=w) :
  fB P num gl gnum ⟨λf' avs kb h=>if f'=76 then pH avs kb h else none,λ_ _ _ _=>none⟩:=by
 intro f avs kb h r h' hr;dsimp only at hr;split at hr
 case isFalse=>cases hr
 rename_i hf;subst hf;refine⟨hfn,?_⟩;intro Fb B0 ρ O w vs H hG hv;unfold pH at hr;split at hr;cases hr;obtain⟨c,rfl,hrv⟩:=kW hv;have:∃p cap,c = .slice p 0 cap:=by cases hrv<;>exact⟨_,_,rfl⟩
 obtain⟨p,cap,rfl⟩:=this;refine(hn p cap w).mono ?_;rintro e w' ⟨rfl,rfl⟩;exact⟨_,ρ,O,rfl,Evo.refl _ _ _,H,hrv⟩;rename_i k e off len cap;split at hr
 case h_2=>cases hr
 rename_i e' cs ti hg;split at hr
 case isFalse=>cases hr
 rename_i hcond;obtain⟨rfl,hle,hbig⟩:=hcond;split at hr
 case h_2=>cases hr
 rename_i zs hzs;cases hr;obtain⟨c,rfl,hrv⟩:=kW hv;cases hrv with
 |rf _ _ _ _ _ cap' L hL hlen hcap ht hroom=>
  obtain⟨hH,hb,hzl⟩:=F3 H hg hL (tN hzs) hle;have hcl:=lQ zs;have hcall:=hc L.b (L.base+off) cap' zs w hH (by omega) (by omega);rw[hzl]at hcall;refine hcall.mono ?_;rintro e w' ⟨rfl,n,rfl⟩;have hln:(bU zs++List.replicate (zs.length-(bU zs).length) 0).length=len:=by simp;omega
  obtain⟨ev,H1⟩:=P1 (n:=n) H hg hL hln hle;rw[hzl]at ev H1 ⊢;exact⟨_,ρ,O,rfl,ev,H1,.rf _ _ _ _ _ cap' L hL (by omega) hcap ht hroom⟩
 cases hr
end
end
section
def wZ:List AV->Option (List (List UInt8))
 |[]=>some []
 |.str s::r=>(wZ r).map (s :: ·)
 |_=>none
def tX(args:List AV)(_:Nat)(h:Hp):Option (AV×Hp):=
 match args with
 |[.sl _ es _,.str sep]=>
  match wZ es with
  |some l=>if l.length<=16777216/\(Lib.join l sep).length<=140737488355328 then some (.str (Lib.join l sep),h) else none
  |none=>none
 |_=>none
theorem AA:∀{es:List AV}{l:List (List UInt8)},wZ es=some l->es=l.map AV.str
 |[],l,h=>by cases h;rfl
 |.str s::r,l,h=>by simp only[wZ,iC]at h;obtain⟨l',h1,rfl⟩:=h;rw[AA h1];rfl
 |.top::_,_,h|.bool _::_,_,h|.int _ _::_,_,h|.nilp::_,_,h|.nilm::_,_,h|.nilf::_,_,h|.nili::_,_,h|.agg _::_,_,h|.tup _::_,_,h|.sl _ _ _::_,_,h|.fp _::_,_,h
 |.rf _ _ _ _ _::_,_,h|.pt _ _ _::_,_,h|.mp _ _::_,_,h|.yl _ _::_,_,h|.fn _ _::_,_,h|.ifc _::_,_,h|.os _ _ _::_,_,h|.ift _ _::_,_,h|.fnm _ _::_,_,h=>by simp[wZ]at h
section
variable{P:Program}{num:Nm}{gl:Nat->Option AV}{gnum:Nat->Nat}{Fb:Nat->Prop}{B0:Nat}{ρ : Rho}{w w':World}{O:Nat->Prop}{h:Hp}
theorem aEt(F:Nat)(hfn:sZ P (num F))
  (h0:∀(a:Option Addr)(c:Nat)(sep:ByteArray)(w:World),Calls P (num F) #[.slice a 0 c,.string sep] w λe w'=>e = .returned (.string ⟨#[]⟩)/\w'=w)
  (hc:∀(bk o c:Nat)(xs:List ByteArray)(sep:ByteArray)(w:World),(∀(j:Nat) x,xs[j]?=some x->w.cell? ⟨bk,o+j,none⟩=some (.string x))->bk<w.heap.size->xs.length<=140737488355328->xs.length<=c ->
   (Lib.join (xs.map (·.data.toList)) sep.data.toList).length<=140737488355328 ->
   Calls P (num F) #[.slice (some ⟨bk,o,none⟩) xs.length c,.string sep] w λe w'=>e = .returned (.string ⟨(Lib.join (xs.map (·.data.toList)) sep.data.toList).toArray⟩)/\RowKit.Below w.heap.size w w') :
  fB P num gl gnum ⟨λf' avs kb h=>if f'=F then tX avs kb h else none,λ_ _ _ _=>none⟩:=by
 intro f avs kb h r h' hr;dsimp only at hr;split at hr
 case isFalse=>cases hr
 rename_i hf;subst hf;refine⟨hfn,?_⟩;intro Fb B0 ρ O w vs H hG hv;unfold tX at hr;split at hr
 case h_2=>cases hr
 rename_i nl es cl sep;split at hr
 case h_2=>cases hr
 rename_i l hl;split at hr
 case isFalse=>cases hr
 rename_i hb;cases hr;obtain rfl:=AA hl
 obtain⟨a,rfl,ha⟩:∃a,vs=[a,.string ⟨sep.toArray⟩]/\Rv num ρ w (λb=>Fb b\/O b) (.sl nl (l.map AV.str) cl) a:=by
  cases hv with
  |cons ha h2=>cases h2 with
   |cons hcs h3=>cases h3;obtain rfl:=hcs.of_str;exact⟨_,rfl,ha⟩
 cases l with
 |nil=>
  have:∃p cap,a = .slice p 0 cap:=by cases ha<;>exact⟨_,_,rfl⟩
  obtain⟨p,cap,rfl⟩:=this;refine(h0 p cap _ w).mono ?_;rintro e w' ⟨rfl,rfl⟩;exact⟨_,ρ,O,rfl,Evo.refl _ _ _,H,.str _⟩
 |cons s r=>
  generalize hls:s::r=l at *;have hne:l.map AV.str≠[]:=by rw[<-hls];simp
  obtain⟨es,hes⟩:∃es,es=l.map AV.str:=⟨_,rfl⟩
  rw[<-hes]at ha hne;cases ha with
  |nsl=>exact absurd rfl hne
  |sl _ _ b off cap sz c hcap hcl hF hz hm hr sp hsp=>
   obtain rfl:=hsp hne;have hsz:sz=1:=by have:=hz 0 (.str s) (by rw[hes,<-hls];rfl);simpa[AV.cells] using this.symm
   subst hsz
   have hce:∀(j:Nat)(x:ByteArray),(l.map λs=>(⟨s.toArray⟩:ByteArray))[j]?=some x->w.cell? ⟨b,off+j,none⟩=some (.string x):=by
    intro j x hx;rw[List.getElem?_map,iC]at hx;obtain⟨t,ht,rfl⟩:=hx;have hlt:j<l.length:=by rcases Nat.lt_or_ge j l.length with h|h;exact h;rw[cP h]at ht;cases ht
    have h1:=hm j (by rw[hes];simpa using hlt);have h2:=hr j (.str t) 0 (.str t) (by rw[hes,List.getElem?_map,ht];rfl) rfl;rw[Nat.mul_one,Nat.add_zero]at h2;rw[h1,h2.of_str]
   have hmap:(l.map λs=>(⟨s.toArray⟩:ByteArray)).map (·.data.toList)=l:=by rw[List.map_map];exact List.map_id'' (λs=>rfl) l
   have hlen:(l.map λs=>(⟨s.toArray⟩:ByteArray)).length=es.length:=by rw[hes];simp
   have:=hc b off cap (l.map λs=>(⟨s.toArray⟩:ByteArray)) ⟨sep.toArray⟩ w hce (hF hne).2 (by rw[bD];omega) (by rw[hlen];exact hcap) (by rw[hmap];simpa using hb.2);rw[hmap,hlen]at this;refine this.mono ?_;rintro e w' ⟨rfl,hbe⟩;obtain⟨ev,H'⟩:=j2 H hbe;exact⟨_,ρ,O,rfl,ev,H',.str _⟩
end
end
section
def BD(args:List AV)(_:Nat)(h:Hp):Option (AV×Hp):=
 match args with
 |[.str s,.str sep]=>bif s.length.ble 1000000 then some (.tup [.str (Lib.cut s sep).1,.str (Lib.cut s sep).2.1,.bool (Lib.cut s sep).2.2],h) else none
 |_=>none
section
variable{P:Program}{num:Nm}{gl:Nat->Option AV}{gnum:Nat->Nat}
theorem aGF(F g:Nat)(m:Int)(hgl:gl g=some (.int .i64 m))(hfn:sZ P (num F))
  (hc:∀(s sep:ByteArray)(w:World),s.size<=1000000->w.cell? ⟨gnum g,0,none⟩=some (.int .i64 m)->Calls P (num F) #[.string s,.string sep] w λe w'=>
   e = .returned (.tuple #[.string ⟨(Lib.cut s.data.toList sep.data.toList).1.toArray⟩,.string ⟨(Lib.cut s.data.toList sep.data.toList).2.1.toArray⟩,.bool (Lib.cut s.data.toList sep.data.toList).2.2])/\RowKit.Below w.heap.size w w') :
  fB P num gl gnum ⟨λf' avs kb h=>if f'=F then BD avs kb h else none,λ_ _ _ _=>none⟩:=by
 intro f avs kb h r h' hr;dsimp only at hr;split at hr
 case isFalse=>cases hr
 rename_i hf;subst hf;refine⟨hfn,?_⟩;intro Fb B0 ρ O w vs H hG hv;unfold BD at hr;split at hr
 case h_2=>cases hr
 rename_i s sep;cases hb:s.length.ble 1000000 with
 |false=>rw[hb]at hr;cases hr
 |true=>
 rw[hb]at hr;cases hr;obtain rfl:vs=[.string ⟨s.toArray⟩,.string ⟨sep.toArray⟩]:=by
  cases hv with
  |cons ha h2=>cases h2 with
   |cons hcs h3=>cases h3;rw[ha.of_str,hcs.of_str]
 have hcell:w.cell? ⟨gnum g,0,none⟩=some (.int .i64 m):=by
  have h1:=(hG g _ hgl).2;cases h1 with
  |fp _ b off c hF hb hm hr=>have h2:=hm 0 (by simp[AV.cells]);have h3:=hr 0 _ rfl;rw[Nat.add_zero]at h2;rw[h2,h3.of_int]
 refine(hc ⟨s.toArray⟩ ⟨sep.toArray⟩ w (by simpa[ByteArray.size] using Nat.le_of_ble_eq_true hb) hcell).mono ?_;rintro e w' ⟨rfl,hbe⟩;obtain⟨ev,H'⟩:=j2 H hbe;refine⟨_,ρ,O,rfl,ev,H',?_⟩;refine .tup _ _ rfl ?_;intro i x y hx hy
 match i with
 |0=>simp at hx hy;subst hx;subst hy;exact .str _
 |1=>simp at hx hy;subst hx;subst hy;exact .str _
 |2=>simp at hx hy;subst hx;subst hy;exact .bool _
 |n+3=>simp at hx
end
end
end Go.Tev
