import Derived.Test.YtilkdbbkkcnocaaGreatDoorSAQ
import Derived.Lib.AtoiAll
import Derived.Lib.AtoiAllCases
import Derived.Test.YtilkdbbkkcnocaaGreatDoorSAH
import Derived.Lib.SlicesCompact
import Derived.Lib.ItoaNum
import Derived.Lib.AtoiErrMem
import Derived.Sort.Grow
import Derived.Lib.Join
import Derived.KernelRfl
import Derived.Shelf.Strings.OnBuilder
import Derived.Test.YtilkdbbkkcnocaaGreatDoorProg
set_option linter.all false
namespace Go.Tev
section
mutual
def aA.sz:aA->Nat
 |.mk _ _ _ _ _ _ _ _ _ kids _=>1+aA.szL kids
def aA.szL:List aA->Nat
 |[]=>0
 |p::r=>p.sz+aA.szL r
end
theorem aA.sz_eq(p:aA):p.sz=1+aA.szL p.kids:=by cases p;rw[aA.sz];rfl
theorem aA.szL_mem:∀{l:List aA}{q:aA},q∈l->q.sz<=aA.szL l
 |x::r,q,h=>by rcases List.mem_cons.1 h with rfl|h;rw[aA.szL];omega;have:=aA.szL_mem h;rw[aA.szL];omega
mutual
def cD(values:Int):aA->List Str->Bool
 |.mk op num value name at_ dyn check fn knl kids kcl,vars=>
  dK (.mk op num value name at_ dyn check fn knl kids kcl) vars values&&aY at_.es vars&&dS values (decide (op.bs=[114,101,100,117,99,101])) name vars 0 kids
def dS(values:Int)(red:Bool)(name:Str)(vars:List Str):Nat->List aA->Bool
 |_,[]=>true
 |i,k::r=>cD values k (if red&&decide ((i:Int)=1) then vars++[name] else vars)&&dS values red name vars (i+1) r
end
theorem iI(values:Int)(p:aA)(vars:List Str):cD values p vars=(dK p vars values&&aY p.at_.es vars&&dS values (decide (p.op.bs=[114,101,100,117,99,101])) p.name vars 0 p.kids):=by cases p;rw[cD];rfl
theorem Own.snap{h:Hp}{k0 esz:Nat}{ag:Bool}{v:AV}{es:List AV}(o:Own h k0 esz ag v es)(he:∀x∈es,El esz ag x)(d:Nat):∃nl cl keys,Tev.snap (d+2) h v=some (.sl nl es cl,keys)/\(nl=true->es=[]):=by
 rcases o with ⟨rfl,nl,cl,rfl,hc⟩|⟨e,cs,rfl,hg,hu⟩
 exact⟨nl,cl,[],by rw[fR];rfl,λ_=>rfl⟩;obtain⟨cs',h1,h2,h3,h4⟩:=bU he;rw[hu]at h1;cases h1;have h5:=h4 [];rw[List.append_nil]at h5;have ht:treeL es=true:=by
  clear h2 h4 h5 hu hg
  induction es with
  |nil=>rfl
  |cons x r ih=>simp only[treeL,aD];exact⟨(he x (by simp)).tree,ih (λy hy=>he y (bT _ hy))⟩
 have h6:mapS (Tev.snap (d+1) h) es=some (es,[]):=dA d h ht;exact⟨false,false,[k0],by rw[fR];simp[hg,h5,h6,AV.tree],λh=>by cases h⟩
theorem qP{h:Hp}{d:Nat}{a:AV}(ha:a.tree=true):Tev.snap (d+1) h a=some (a,[]):=by rw[fR,if_pos ha]
theorem mE{h:Hp}{d:Nat}{a b c b':AV}{keys:List Nat}(ha:a.tree=true)(hb:Tev.snap (d+1) h b=some (b',keys))(hc:c.tree=true):mapS (Tev.snap (d+1) h) [a,b,c]=some ([a,b',c],keys):=by simp[bG,eN,qP ha,qP hc,hb]
section
variable{pg:Pg}
theorem c147(hf:pg.fs 147=some KU)(h182:∀(p:aA),p.kids.length<=big->∀(nl cl:Bool) (vars:List Str),vars.length<=big->∀v:Int,Ret pg 182 [p.av,.sl nl (vars.map Str.av) cl,.int .i64 v] (.bool (dK p vars v)))
  (h183:∀(nl cl:Bool)(ls:List Lin),ls.length<=big->∀(nl' cl':Bool)(vars:List Str),vars.length<=big->Ret pg 183 [.sl nl (ls.map Lin.av) cl,.sl nl' (vars.map Str.av) cl'] (.bool (aY ls vars)))
  (h184:pg.fs 184=some D0) (h209:pg.fs 209=some A2) (v:Int) :
  ∀p:aA,p.ok->∀(nl cl:Bool)(vars:List Str),vars.length+p.sz<=big->Ret pg 147 [p.av,.sl nl (vars.map Str.av) cl,.int .i64 v] (.bool (cD v p vars)):=by
 refine aA.ind' λp ih hp nl cl vars hb=>?_;obtain⟨hk,hks⟩:=(aA.ok_iff p).1 hp;have hsz:=aA.sz_eq p;have a1:=h182 p hk nl cl vars (by omega) v;have a2:=h183 p.at_.nl p.at_.cl p.at_.es p.at_.ok nl cl vars (by omega);rw[aA.avc]at a1;clear h182 h183;refine Ret.ofX hf ?_;unfold KU;simp only[go_sem,seval];refine aC (a1) ?_;simp only[go_sem,seval];cases b1:dK p vars v;simp only[go_sem,seval];rw[iI,b1];rfl;simp only[go_sem,seval];refine aC (a2) ?_;simp only[go_sem,seval];cases b2:aY p.at_.es vars;simp only[go_sem,seval];rw[iI,b1,b2];rfl;simp only[go_sem,seval];generalize hred:decide (p.op.bs=[114,101,100,117,99,101])=red;have hspec:cD v p vars=dS v red p.name vars 0 p.kids:=by rw[iI,b1,b2,hred];rfl
 rw[hspec];refine eJ p.kids (λd e=>eH e (some 25) (.int .i64 d.length)) (λd r hp=>hp.get 1=some (0,.blk [.str p.op.bs,.int .i64 p.num,.int .i64 p.value,.str p.name.bs,.sl p.at_.nl (p.at_.es.map Lin.av) p.at_.cl,.bool p.dyn,.int .i64 p.check,.sl p.fn.nl (p.fn.es.map aE.av) p.fn.cl,.sl p.knl (p.kids.map aA.av) p.kcl] 9 true true false)/\dS v red p.name vars 0 p.kids=dS v red p.name vars d.length r) rfl ?_ ?_ ?_;exact⟨rfl,rfl⟩;rintro hp ⟨h1,hI⟩;simp only[G6,G5,go_sem,seval];rw[hI];rfl;rintro d x r hp hes ⟨h1,hI⟩;have hxm:x∈p.kids:=by rw[hes];simp
 have hxs:x.sz<=aA.szL p.kids:=aA.szL_mem hxm;have hx:=ih x hxm (hks x hxm);simp only[dS]at hI;have hb2:(d++x::r).length<=big:=by rw[<-hes];exact hk
 have hlast:∀own:List Str,∀hp2:Hp,hp2.get 1=hp.get 1->cD v x own=cD v x (if red&&decide ((d.length:Int)=1) then vars++[p.name] else vars)->True:=λ_ _ _ _=>trivial;have h0:=h1;rw[hes]at h1 ⊢;simp only[G6,G5,h1,hred,go_sem,seval];cases c1:red;simp only[go_sem,seval];have hx1:=hx nl cl vars (by omega);rw[aA.avc]at hx1;refine aC (hx1) ?_;rw[c1]at hI;simp only[go_sem,seval];cases b3:cD v x vars;simp only[go_sem,seval];rw[<-hes,hI];simp[b3];simp only[cQ hb2,go_sem,seval];rw[<-hes];exact⟨h0,by simpa[b3] using hI⟩;simp only[go_sem,seval];cases c2:decide ((d.length:Int)=1);simp only[c2,go_sem,seval];have hx1:=hx nl cl vars (by omega);rw[aA.avc]at hx1;refine aC (hx1) ?_;rw[c1,c2]at hI;simp only[go_sem,seval];cases b3:cD v x vars;simp only[go_sem,seval];rw[<-hes,hI];simp[b3];simp only[cQ hb2,go_sem,seval];rw[<-hes];exact⟨h0,by simpa[b3] using hI⟩;simp only[c2,h1,go_sem,seval];refine HL (c184 h184 h209 nl cl vars p.name (by omega)) (by simp only[go_sem,seval]) (El.strs (vars++[p.name])) ?_;intro v' rd pa ho hkk hpa;simp only[hkk,go_sem,seval];obtain⟨nl2,cl2,keys,hsn,hnl⟩:=ho.snap (El.strs (vars++[p.name])) 62;have hx2:=hx nl2 cl2 (vars++[p.name]) (by simp;omega);rw[aA.avc]at hx2;refine cX hx2 (mE (by simp only[go_sem,seval]) hsn (by simp only[go_sem,seval])) (v:=.bool (cD v x (vars++[p.name]))) (pa:=[]) rfl ?_;rw[c1,c2]at hI;simp only[hkk,go_sem,seval];cases b3:cD v x (vars++[p.name]);simp only[go_sem,seval];rw[<-hes,hI];simp[b3];simp only[cQ hb2,hkk,go_sem,seval];rw[<-hes];exact⟨h0,by simpa[b3] using hI⟩
def cU(p:aA)(vars:List Str)(v:Int):Bool:=decide (kR p<=4000)&&cD v p vars
theorem c109(hf:pg.fs 109=some LA)(h146:pg.fs 146=some D3)(h147:∀p:aA,p.ok->∀(nl cl:Bool) (vars:List Str),vars.length+p.sz<=big->∀v:Int,Ret pg 147 [p.av,.sl nl (vars.map Str.av) cl,.int .i64 v] (.bool (cD v p vars)))
  (p:aA) (hp:p.ok) (nl cl:Bool) (vars:List Str) (hb:vars.length+p.sz<=big) (v:Int):Ret pg 109 [p.av,.sl nl (vars.map Str.av) cl,.int .i64 v] (.bool (cU p vars v)):=by
 have a1:=c146 h146 p hp;have a2:=h147 p hp nl cl vars hb v;rw[aA.avc]at a1 a2;refine Ret.ofX hf ?_;clear h146 h147;unfold LA
 repeat' (first|simp only[*,go_sem,seval]|refine bW (λ_=>?_) (λ_=>?_)|refine bZ (λ_=>?_) (λ_=>?_)|(refine aC a1 ?_)|(refine aC a2 ?_)|refine cN ?_)
 all_goals (clear a1 a2)
 all_goals (simp_all [cU])
 all_goals (intro h;exfalso;omega)
def fO(a b:aE):Bool:=decide (a.op.bs=b.op.bs)&&decide (a.num=b.num)&&eqL (λx y=>decide (x=y)) a.args.es b.args.es
mutual
def dJ:aA->aA->Bool
 |.mk op num value name at_ dyn check fn knl kids kcl,q=>decide (op.bs=q.op.bs)&&decide (num=q.num)&&decide (value=q.value)&&decide (name.bs=q.name.bs)&&(dyn==q.dyn)&&decide (check=q.check)&&eqL eU at_.es q.at_.es&&eqL fO fn.es q.fn.es&&mZ kids q.kids
def mZ:List aA->List aA->Bool
 |[],l=>l.isEmpty
 |p::r,l=>match l with|[]=>false|q::s=>dJ p q&&mZ r s
end
theorem qS(p q:aA):dJ p q=(decide (p.op.bs=q.op.bs)&&decide (p.num=q.num)&&decide (p.value=q.value)&&decide (p.name.bs=q.name.bs)&&(p.dyn==q.dyn)&&decide (p.check=q.check)&&eqL eU p.at_.es q.at_.es&&eqL fO p.fn.es q.fn.es&&mZ p.kids q.kids):=by cases p;rw[dJ];rfl
theorem mB:∀a b:List aA,mZ a b=eqL dJ a b
 |[],[]=>by simp[mZ,eqL]
 |[],_::_=>by simp[mZ,eqL]
 |_::_,[]=>by simp[mZ,eqL]
 |p::r,q::s=>by simp[mZ,eqL,mB r s]
theorem c181(hf:pg.fs 181=some KQ)(nl cl nl' cl':Bool)(es es':List Int)(hb:es.length<=big):Ret pg 181 [.sl nl (es.map aV) cl,.sl nl' (es'.map aV) cl'] (.bool (eqL (λx y=>decide (x=y)) es es')):=
 VD (f:=181) (k:=.bin .neq) hf aV (λ_=>rfl) nl cl nl' cl' es es' hb _ (by intro kb s h x y Q t;simp only[go_sem,seval]) rfl
theorem c180(hf:pg.fs 180=some KR)(h181:pg.fs 181=some KQ)(a b:aE):Ret pg 180 [a.av,b.av] (.bool (fO a b)):=by
 have k:=c181 h181 a.args.nl a.args.cl b.args.nl b.args.cl a.args.es b.args.es a.args.ok;refine Ret.ofX hf ?_;unfold KR
 repeat' (first|simp only[*,go_sem,seval]|refine bW (λ_=>?_) (λ_=>?_)|refine bZ (λ_=>?_) (λ_=>?_)|(refine aC k ?_)|refine cN ?_)
 all_goals (clear k)
 all_goals (simp_all [fO])
theorem c179(hf:pg.fs 179=some PZ)(h180:∀a b:aE,Ret pg 180 [a.av,b.av] (.bool (fO a b)))(nl cl nl' cl':Bool)(es es':List aE)(hb:es.length<=big) :
  Ret pg 179 [.sl nl (es.map aE.av) cl,.sl nl' (es'.map aE.av) cl',.fn 180 []] (.bool (eqL fO es es')):=
 MX (f:=179) (esz:=3) (ag:=true) rfl hf aE.av (λx=>[.str x.op.bs,.int .i64 x.num,x.args.av aV]) (λ_=>rfl) (λ_=>rfl) (λ_=>rfl) rfl (λx=>by simp only[go_sem,seval]) nl cl nl' cl' es es' hb 180 fO (λx _ y _=>h180 x y)
theorem c144(hf:pg.fs 144=some KV)(h179:∀(nl cl nl' cl':Bool) (es es':List aE),es.length<=big->Ret pg 179 [.sl nl (es.map aE.av) cl,.sl nl' (es'.map aE.av) cl',.fn 180 []] (.bool (eqL fO es es')))
  (nl cl nl' cl':Bool) (es es':List aE) (hb:es.length<=big):Ret pg 144 [.sl nl (es.map aE.av) cl,.sl nl' (es'.map aE.av) cl'] (.bool (eqL fO es es')):=by
 have k:=h179 nl cl nl' cl' es es' hb;refine Ret.ofX hf ?_;clear h179;unfold KV
 repeat' (first|simp only[*,go_sem,seval]|refine bW (λ_=>?_) (λ_=>?_)|refine bZ (λ_=>?_) (λ_=>?_)|(refine aC k ?_)|refine cN ?_)
theorem aA.one_cells(x:aA):bC x.cells=true:=rfl
theorem c105(hf:pg.fs 105=some LC)(h67:∀(nl cl nl' cl':Bool) (es es':List Lin),es.length<=big->Ret pg 67 [.sl nl (es.map Lin.av) cl,.sl nl' (es'.map Lin.av) cl',.fn 143 []] (.bool (eqL eU es es')))
  (h144:∀(nl cl nl' cl':Bool)(es es':List aE),es.length<=big->Ret pg 144 [.sl nl (es.map aE.av) cl,.sl nl' (es'.map aE.av) cl'] (.bool (eqL fO es es'))) (h145:pg.fs 145=some P1) :
  ∀p:aA,p.ok->∀q:aA,Ret pg 105 [p.av,q.av] (.bool (dJ p q)):=by
 refine aA.ind' λp ih hp q=>?_;obtain⟨hk,hks⟩:=(aA.ok_iff p).1 hp;have a1:=h67 p.at_.nl p.at_.cl q.at_.nl q.at_.cl p.at_.es q.at_.es p.at_.ok;have a2:=h144 p.fn.nl p.fn.cl q.fn.nl q.fn.cl p.fn.es q.fn.es p.fn.ok;have a3:Ret pg 145 [.sl p.knl (p.kids.map aA.av) p.kcl,.sl q.knl (q.kids.map aA.av) q.kcl,.fn 105 []] (.bool (eqL dJ p.kids q.kids)):=
  MX (f:=145) (esz:=9) (ag:=true) rfl h145 aA.av aA.cells aA.av_eq (λ_=>rfl) aA.one_cells rfl aA.tree_av p.knl p.kcl q.knl q.kcl p.kids q.kids hk 105 dJ (λx hx y _=>ih x hx (hks x hx) y)
 refine Ret.ofX hf ?_;clear h67 h144 ih hks;unfold LC
 repeat' (first|simp only[*,go_sem,seval]|refine bW (λ_=>?_) (λ_=>?_)|refine bZ (λ_=>?_) (λ_=>?_)|(refine aC a1 ?_)|(refine aC a2 ?_)|(refine aC a3 ?_)|refine cN ?_)
 all_goals (clear a1 a2 a3)
 all_goals (rw[qS,mB])
 all_goals (simp_all)
end
end
section
mutual
def l9:aA->List Int
 |.mk op _ value _ _ _ _ _ _ kids _=>(if decide (op.bs=[114,101,97,100]) then [value] else [])++lI kids
def lI:List aA->List Int
 |[]=>[]
 |p::r=>l9 p++lI r
end
theorem QZ(p:aA):l9 p=(if decide (p.op.bs=[114,101,97,100]) then [p.value] else [])++lI p.kids:=by cases p;rw[l9];rfl
mutual
theorem zE:∀p:aA,(l9 p).length<=p.sz
 |.mk op num value name at_ dyn check fn knl kids kcl=>by have:=zF kids;rw[l9,aA.sz,cO];split<;>simp<;>omega
theorem zF:∀l:List aA,(lI l).length<=aA.szL l
 |[]=>by simp[lI,aA.szL]
 |p::r=>by have h1:=zE p;have h2:=zF r;simp only[lI,aA.szL,cO];omega
end
def fD(pg:Pg)(f:Nat)(vs:List AV)(kb:Nat)(h:Hp)(P:AV->Hp->Prop):Prop:=∃r h',tE pg f vs kb h r h'/\P r h'
def VO(res:List (Sum Nat (Nat×Nat×Bool)))(P:AV->Hp->Prop)(ex:Ex)(st:St):Prop:=
 match ex with
 |.ext _=>False
 |_=>∃v,result st res=some v/\P v st.hp
theorem R0(res:List (Sum Nat (Nat×Nat×Bool)))(P:AV->Hp->Prop)(st:St):VO res P .nor st=∃v,result st res=some v/\P v st.hp:=rfl
theorem RZ(res:List (Sum Nat (Nat×Nat×Bool)))(P:AV->Hp->Prop)(st:St):VO res P .ret st=∃v,result st res=some v/\P v st.hp:=rfl
attribute [go_sem ↓] R0 RZ
section
variable{pg:Pg}{kb:Nat}
theorem fD.ofX{f:Nat}{cf:CF}{vs:List AV}{h:Hp}{P:AV->Hp->Prop}(hf:pg.fs f=some cf)(hw:XX pg kb cf.body ⟨enter cf vs,h⟩ (VO cf.res P) ⟨⟩):fD pg f vs kb h P:=by
 obtain⟨n,ex,st,h1,h2⟩:=hw;cases ex with
 |ext i=>exact h2.elim
 |nor=>obtain⟨v,h3,h4⟩:=h2;exact⟨v,st.hp,tE.of hf ⟨n,.nor,st,h1,trivial,h3,rfl⟩,h4⟩
 |ret=>obtain⟨v,h3,h4⟩:=h2;exact⟨v,st.hp,tE.of hf ⟨n,.ret,st,h1,trivial,h3,rfl⟩,h4⟩
theorem jU{f s:Nat}{th im:Bool}{h:Hp}{vs:List AV}{P:AV->Hp->Prop}{Q:AV->Eff->Prop}{t:Tok Q}(hm:im=true\/mapS (snap depth h) vs=none){B:Nat}(hB:gX kb s vs=B)(hr:fD pg f vs B h P)
   (hq:∀r h',P r h'->Q r (.whole h')):XO pg kb (.call f th im) s h vs Q t:=by
 obtain⟨r,h',h1,h2⟩:=hr;exact LM hm hB h1 (hq r h' h2)
theorem yL{esz bytes s k1:Nat}{ag:Bool}{h:Hp}{v:AV}{es xs:List AV}{nl cl:Bool}{Q:AV->Eff->Prop}{t:Tok Q}(o:Own h k1 esz ag v es)(he:∀x∈es,El esz ag x)(hx:∀x∈xs,El esz ag x)(hxs:xs≠[])
  (hl:es.length+xs.length<=1073741824) (hb:bytes<=65536)
  (q2:∀v' rd pa,Own (Eff.app h (.pat rd pa)) (kb+s) esz ag v' (es++xs)->(∀k,k≠kb+s->k≠k1->(Eff.app h (.pat rd pa)).get k=h.get k)->Q v' (.pat rd pa)) :
  XO pg kb (.app esz ag bytes) s h [v,.sl nl xs cl] Q t:=by
 by_cases hk:k1=kb+s;subst hk;exact kW o he hx hl hb (λv' rd pa h1 h2 _=>q2 v' rd pa h1 (λk h3 _=>h2 k h3));exact HM o hk he hx hl hb (λh=>absurd h hxs) (λ_ v' rd pa h1 h2=>q2 v' rd pa h1 h2)
theorem qT{f:AV->Option (AV×List Nat)}:∀{l:List AV}{x:AV},x∈l->f x=none->mapS f l=none
 |y::r,x,h,hf=>by
  rcases List.mem_cons.1 h with rfl|h;simp[bG,hf];rw[bG];cases f y with
  |none=>rfl
  |some p=>simp[qT h hf]
theorem sH{h:Hp}{f kw ew:Nat}{cs:List AV}{ti fz:Bool}(hg:h.get kw=some (ew,.blk [.fn f cs] 1 false ti fz))(hm:AV.pt kw ew 0∈cs):∀d,snap d h (.pt kw ew 0)=none
 |0=>rfl
 |1=>by rw[fR];simp[AV.tree,hg,bG,snap]
 |d+2=>by
  have ih:=sH hg hm d;have hms:=qT hm ih;have ht:treeL cs=false:=by
   clear hms ih hg
   induction cs with
   |nil=>cases hm
   |cons x r ih2=>simp only[treeL];rcases List.mem_cons.1 hm with rfl|hm;simp[AV.tree];simp[ih2 hm]
  rw[fR];simp[AV.tree,hg,bG,fR,ht,hms]
def Out(h:Hp)(v:AV)(es:List Int):Prop:=∃k,Own h k 1 false v (es.map aV)/\65536<=k/\k % 65536=5
theorem El.ints(l:List Int):∀x∈l.map aV,El 1 false x:=by intro x hx;simp only[List.mem_map]at hx;obtain⟨y,_,rfl⟩:=hx;exact⟨rfl,rfl,rfl⟩
theorem Out.put{h:Hp}{v:AV}{es:List Int}(o:Out h v es){q e:Nat}{ob:Ob}(hq:q<65536\/q % 65536≠5):Out (h.put q e ob) v es:=by obtain⟨k,o,h1,h2⟩:=o;refine⟨k,o.mono ?_,h1,h2⟩;rw[aB,if_neg (by intro h;subst h;omega)]
theorem Own.one{h:Hp}{k0 esz:Nat}{ag:Bool}{v:AV}{es:List AV}(o:Own h k0 esz ag v es):v.fits 1 false=true/\v.one=true/\v.cells=[v]:=by
 rcases o with ⟨rfl,nl,cl,rfl,hc⟩|⟨e,cs,rfl,hg,hu⟩
 exact⟨rfl,rfl,rfl⟩;exact⟨rfl,rfl,rfl⟩
end
end
section
def xG(x:Int):List Int->List Int
 |[]=>[x]
 |y::r=>if x<=y then x::y::r else y::xG x r
def mU:List Int->List Int
 |[]=>[]
 |x::r=>xG x (mU r)
def gF:List Int->List Int
 |[]=>[]
 |[x]=>[x]
 |x::y::r=>if x=y then gF (y::r) else x::gF (y::r)
theorem JD(x:Int):∀l,(xG x l).length=l.length+1
 |[]=>rfl
 |y::r=>by simp only[xG];split<;>simp[JD x r]
theorem u7:∀l,(mU l).length=l.length
 |[]=>rfl
 |x::r=>by simp[mU,JD,u7 r]
theorem vP:∀l:List Int,(gF l).length<=l.length
 |[]=>by simp[gF]
 |[x]=>by simp[gF]
 |x::y::r=>by have:=vP (y::r);simp only[gF];split<;>simp at * <;> omega
theorem zR(x a:Int):∀l,a∈xG x l↔a=x\/a∈l
 |[]=>by simp[xG]
 |y::r=>by simp only[xG];split;simp;simp[zR x a r];constructor<;>intro h<;>rcases h with h|h|h<;>simp[h]
theorem CQ(a:Int):∀l,a∈mU l↔a∈l
 |[]=>by simp[mU]
 |x::r=>by simp[mU,zR,CQ a r]
theorem CS(a:Int):∀l:List Int,a∈gF l↔a∈l
 |[]=>by simp[gF]
 |[x]=>by simp[gF]
 |x::y::r=>by have:=CS a (y::r);simp only[gF];split;rename_i h;subst h;simp[this];simp[this]
def sK(p:aA):List Int:=gF (mU (l9 p))
theorem tG:∀(l:List Int),aP 1 false (l.map aV)=some (l.map aV)
 |[]=>rfl
 |x::r=>by have ih:=tG r;rw[List.map_cons,aP,ih];rfl
section
variable{pg:Pg}
theorem fD.mono{f:Nat}{vs:List AV}{kb:Nat}{h:Hp}{P P':AV->Hp->Prop}(hr:fD pg f vs kb h P)(hP:∀r h',P r h'->P' r h'):fD pg f vs kb h P':=by obtain⟨r,h',a,b⟩:=hr;exact⟨r,h',a,hP r h' b⟩
end
end
section
def qE:Nat->Nat->List UInt8
 |0,_=>[]
 |f+1,u=>if u<10 then [UInt8.ofNat (48+u)] else qE f (u / 10)++[UInt8.ofNat (48+u % 10)]
def iW(acc:Nat)(l:List UInt8):Nat:=l.foldl (λa c=>a*10+(c.toNat-48)) acc
theorem AP:∀(l:List UInt8)(acc:Nat),acc<=iW acc l
 |[],acc=>Nat.le_refl _
 |c::r,acc=>by have:=AP r (acc*10+(c.toNat-48));simp only[iW,List.foldl_cons]at this ⊢;omega
theorem JU:∀(l:List UInt8)(acc:Nat),l.all cT=true->iW acc l<(acc+1)*10 ^ l.length
 |[],acc,_=>by simp[iW]
 |c::r,acc,h=>by simp only[List.all_cons,aD,cT,cK]at h;have:=JU r (acc*10+(c.toNat-48)) (by simpa[cT] using h.2);simp only[iW,List.foldl_cons,List.length_cons,Nat.pow_succ]at this ⊢;refine Nat.lt_of_lt_of_le this ?_;rw[Nat.mul_comm (10 ^ r.length) 10,<-Nat.mul_assoc];exact Nat.mul_le_mul_right _ (by omega)
theorem MZ(l:List UInt8)(c:UInt8)(acc:Nat):iW acc (l++[c])=iW acc l*10+(c.toNat-48):=by simp[iW]
theorem tR:∀(l:List UInt8)(acc:Nat),l.all cT=true->iW acc l<1844674407370955162->Lib.parseUint10 acc l = .ok (iW acc l)
 |[],acc,_,_=>rfl
 |c::r,acc,h,hb=>by simp only[List.all_cons,aD]at h;have hd:=h.1;simp only[cT,aD,cK]at hd;have h1:=AP r (acc*10+(c.toNat-48));have e:iW acc (c::r)=iW (acc*10+(c.toNat-48)) r:=rfl;rw[e]at hb ⊢;rw[Lib.parseUint10,if_pos hd,if_neg (by omega),if_neg (by omega)];exact tR r _ h.2 hb
theorem DM{l:List UInt8}(h:l.all cT=true)(h0:l≠[])(hh:l.head? ≠ some 48):0<iW 0 l:=by
 cases l with
 |nil=>exact absurd rfl h0
 |cons c r=>simp only[List.all_cons,aD,cT,cK]at h;have h1:=AP r (0*10+(c.toNat-48));have h2:c.toNat≠48:=λe=>hh (by simp;exact UInt8.toNat_inj.1 e);have e:iW 0 (c::r)=iW (0*10+(c.toNat-48)) r:=rfl;rw[e];omega
theorem JT:∀(n f:Nat)(l:List UInt8),l.length=n->n<=f->l.all cT=true->l≠[]->l.head? ≠ some 48->qE f (iW 0 l)=l
 |0,f,l,hn,_,_,h0,_=>absurd (gU hn) h0
 |n+1,f,l,hn,hf,hd,h0,hh=>by
  obtain⟨f,rfl⟩:∃g,f=g+1:=⟨f-1,by omega⟩
  obtain⟨l',c,rfl⟩:∃l' c,l=l'++[c]:=by
   rcases LQ l with h|⟨l',c,h⟩
   exact absurd h h0;exact⟨l',c,by simpa using h⟩
  simp only[List.all_append,List.all_cons,List.all_nil,Bool.and_true,aD]at hd;have hc:=hd.2;simp only[cT,aD,cK]at hc;have hcc:UInt8.ofNat (48+(c.toNat-48))=c:=by rw[Nat.add_sub_cancel' hc.1];exact UInt8.ofNat_toNat
  rw[MZ];by_cases hl:l'=[]
  subst hl;have:iW 0 []=0:=rfl;rw[this,qE,if_pos (by omega)];simp only[Nat.zero_mul,Nat.zero_add,List.nil_append];rw[hcc];have hh':l'.head? ≠ some 48:=by
   cases l' with
   |nil=>exact absurd rfl hl
   |cons x r=>simpa using hh
  have hp:=DM hd.1 hl hh';rw[qE,if_neg (by omega)];have e1:(iW 0 l'*10+(c.toNat-48)) / 10=iW 0 l':=by omega
  have e2:(iW 0 l'*10+(c.toNat-48)) % 10=c.toNat-48:=by omega
  rw[e1,e2,hcc,JT n f l' (by simpa using hn) (by omega) hd.1 hl hh']
theorem AO:∀(f u:Nat),0<u->u<10 ^ f->(qE f u).all cT=true/\qE f u≠[]/\(qE f u).head? ≠ some 48
 |0,u,h,hu=>by simp at hu;omega
 |f+1,u,h,hu=>by
  have hof:∀n:Nat,n<10->(UInt8.ofNat (48+n)).toNat=48+n:=λn hn=>by simp;omega
  rw[qE];split;rename_i h1;refine⟨by simp[cT,hof u h1];omega,by simp,?_⟩;intro he;simp only[List.head?_cons,aU]at he;have:=congrArg UInt8.toNat he;rw[hof u h1]at this;simp at this;omega;obtain⟨a,b,c⟩:=AO f (u / 10) (by omega) (by rw[Nat.pow_succ]at hu;omega);refine⟨?_,by simp,?_⟩;rw[List.all_append,a];simp[cT,hof (u % 10) (by omega)];omega;cases hx:qE f (u / 10) with
  |nil=>exact absurd hx b
  |cons x r=>rw[hx]at c;simpa using c
def jD(t:List UInt8):Bool:=
 match Lib.atoiAll t with
 |.ok v=>decide (0<v)&&decide ((t.length:Int)+1<=10)&&decide (qE 20 v.toNat=t)
 |_=>false
theorem LJ(t:List UInt8):jD t=(decide (2<=t.length+1)&&decide (t.length+1<=10) && !decide (t.head?=some 48)&&t.all cT):=by
 cases hr:(decide (2<=t.length+1)&&decide (t.length+1<=10) && !decide (t.head?=some 48)&&t.all cT);cases ha:jD t;rfl;exfalso;simp only[jD]at ha;split at ha;rename_i v hv;simp only[aD,cK]at ha;obtain⟨⟨h1,h2⟩,h3⟩:=ha;obtain⟨hb1,hb2⟩:v.toNat<10 ^ 20/\0<v.toNat:=by
  have hv2:v.toNat<18446744073709551616:=by
   cases t with
   |nil=>simp[Lib.atoiAll]at hv
   |cons c r=>
    simp only[Lib.atoiAll]at hv;split at hv;cases hv;cases hv;rename_i u hu;have:=Lib.parseMag_lt hu;split at hv;cases hv;split at hv;cases hv;injection hv with hv
    split at hv<;>omega
  exact⟨by omega,by omega⟩
 obtain⟨a,b,c⟩:=AO 20 v.toNat hb2 hb1;rw[h3]at a b c;have hlen:0<t.length:=List.length_pos_iff.2 b;simp[a,c]at hr;omega;cases ha;simp only[aD,fY,cK,nH]at hr;obtain⟨⟨⟨h1,h2⟩,h3⟩,h4⟩:=hr;have h0:t≠[]:=by rintro rfl;simp at h1
 have hlt:=JU t 0 h4;have hpow:(10:Nat) ^ t.length<=10 ^ 9:=Nat.pow_le_pow_right (by decide) (by omega);have hsm:iW 0 t<1844674407370955162:=by
  have:(10:Nat) ^ 9=1000000000:=by decide
  omega
 have hp:=tR t 0 h4 hsm;have hpos:=DM h4 h0 h3;have hv:Lib.atoiAll t = .ok ((iW 0 t:Nat):Int):=by
  cases t with
  |nil=>exact absurd rfl h0
  |cons c r=>
   have hc:cT c=true:=by simp only[List.all_cons,aD]at h4;exact h4.1
   simp only[cT,aD,cK]at hc;simp only[Lib.atoiAll];rw[if_neg (by omega)];simp only[Lib.parseMag];rw[if_neg (by simp),hp];simp only;rw[if_neg (by omega),if_neg (by omega),if_neg (by omega)]
 have hd:=JT t.length 20 t rfl (by omega) h4 h0 h3;simp only[jD,hv,Int.toNat_natCast,hd,decide_true,Bool.and_true,aD,cK];omega
end
section
def nP(args:List AV)(_:Nat)(h:Hp):Option (AV×Hp):=
 match args with
 |[.str s]=>
  if s.length<=16777216 then
   match Lib.atoiAll s with
   |.ok v=>some (.tup [.int .i64 v,.nili],h)
   |.range=>some (.tup [.int .i64 (Lib.atoiSat s),.ifc .top],h)
   |_=>some (.tup [.int .i64 0,.ifc .top],h)
  else none
 |_=>none
def oQ(args:List AV)(_:Nat)(h:Hp):Option (AV×Hp):=
 match args with
 |[.int .i64 n]=>if 0<=n/\n<=9223372036854775807 then some (.str (qE 20 n.toNat),h) else none
 |_=>none
def sR:List AV->Option (List Int)
 |[]=>some []
 |.int .i64 n::r=>(sR r).map (n :: ·)
 |_=>none
def sZ(args:List AV)(_:Nat)(h:Hp):Option (AV×Hp):=
 match args with
 |[.sl _ [] _]=>some (.tup [],h)
 |[.rf k e off len _]=>
  match h.get k with
  |some (e',.blk cs 1 false ti false)=>
   if e'=e/\off+len<=cs.length/\len<=16777216 then
    match sR ((cs.drop off).take len) with
    |some zs=>some (.tup [],h.put k e (.blk (eF cs off ((mU zs).map aV)) 1 false ti false))
    |none=>none
   else none
  |_=>none
 |_=>none
def s6(args:List AV)(_:Nat)(h:Hp):Option (AV×Hp):=
 match args with
 |[.sl nl [] cl]=>some (.sl nl [] cl,h)
 |[.rf k e off len cap]=>
  match h.get k with
  |some (e',.blk cs 1 false ti false)=>
   if e'=e/\off+len<=cs.length/\len<=16777216 then
    match sR ((cs.drop off).take len) with
    |some zs=>some (.rf k e off (gF zs).length cap,h.put k e (.blk (eF cs off ((gF zs++List.replicate (zs.length-(gF zs).length) 0).map aV)) 1 false ti false))
    |none=>none
   else none
  |_=>none
 |_=>none
structure Ora(pg:Pg):Prop where
 f92:pg.fs 92=none
 f93:pg.fs 93=none
 f75:pg.fs 75=none
 f76:pg.fs 76=none
 atoi:pg.ex 92=some nP
 itoa:pg.ex 93=some oQ
 sort:pg.ex 75=some sZ
 comp:pg.ex 76=some s6
structure aLQ(pg:Pg):Prop where
 f92:pg.fs 92=none
 f93:pg.fs 93=none
 atoi:pg.ex 92=some nP
 itoa:pg.ex 93=some oQ
section
variable{pg:Pg}
theorem Ora.n(A:Ora pg):aLQ pg:=⟨A.f92,A.f93,A.atoi,A.itoa⟩
theorem E2{f:Nat}{g:List AV->Nat->Hp->Option (AV×Hp)}(hf:pg.fs f=none)(hx:pg.ex f=some g){vs:List AV}{r:AV}(hg:g vs 0 []=some (r,[]))(hr:r.tree=true):Ret pg f vs r:=
 ⟨1,by simp only[bJ,aX,hf,hx,hg,vO hr]⟩
def nm:Bool->List UInt8->Bool
 |_,[]=>true
 | fst,c::r=>(eZ c||(!fst&&cT c))&&nm false r
theorem UC:∀r,nm false r=r.all (λx=>eZ x||cT x)
 |[]=>rfl
 |c::r=>by simp[nm,UC r]
theorem I1{s:List UInt8}(h:s.head? ≠ some 95):fT s=(nm true s&&(!decide (s=[])&&decide ((s.length:Int)<=30))):=by
 cases s with
 |nil=>rfl
 |cons c t=>
  have hc:c≠95:=λe=>h (by simp[e]);simp only[fT,if_neg hc,nm,UC];have:decide ((c::t).length<=30)=decide (((c::t).length:Int)<=30):=by rw[eE];omega
  rw[this];cases eZ c<;>cases (t.all λx=>eZ x||cT x)<;>cases decide (((c::t).length:Int)<=30)<;>rfl
theorem I0(t:List UInt8):fT (95::t)=jD t:=by
 rw[LJ];simp only[fT,if_true,List.length_cons];cases h:decide (t.length+1<=10);simp;have:t.length+1<=30:=by simp at h;omega
 simp[this]
set_option maxHeartbeats 8000000 in
theorem aRp(A:aLQ pg)(hf:pg.fs 57=some R7)(h91:pg.fs 91=some M5)(h126:pg.fs 126=some w7)(s:Str):Ret pg 57 [.str s.bs] (.bool (fT s.bs)):=by
 obtain⟨s,hb⟩:=s;have a91:=c91 h91 h126 s [95];have hb':s.length<=16777216:=by simpa[big] using hb
 refine Ret.ofX hf ?_;unfold R7;simp only[go_sem,seval];refine aC a91 ?_;cases hu:(decide ([(95:UInt8)].length<=s.length)&&decide (s.take [(95:UInt8)].length=[95]))
 case true=>
  obtain⟨t,rfl⟩:∃t,s=95::t:=by
   cases s with
   |nil=>simp at hu
   |cons c t=>simp at hu;exact⟨t,by rw[hu]⟩
  have hlen:(((95:UInt8)::t).length:Int)=(t.length:Int)+1:=by simp
  have hlen2:((t.length+1:Nat):Int)=(t.length:Int)+1:=by simp
  have hs1:∀h,wR true false [.str (95::t),.int .i64 1]=some (.str t,.pat [] [])/\h=h:=fun(h:Hp)=>by refine⟨?_,rfl⟩;simp only[wR,jG,Bool.false_eq_true,if_false,if_true,Option.getD_none,Option.getD_some];rw[if_pos ⟨by omega,by simp;omega,by omega⟩];simp[val]
  have hs2:=(hs1 []).1;have hn:fT (95::t)=jD t:=I0 t;have htl:t.length<=16777216:=by simp at hb';omega
  have hex:nP [.str t] 0 []=(match Lib.atoiAll t with|.ok v=>some (.tup [.int .i64 v,.nili],[])|.range=>some (.tup [.int .i64 (Lib.atoiSat t),.ifc .top],[])|_=>some (.tup [.int .i64 0,.ifc .top],[])):=by simp only[nP];rw[if_pos htl]
  rw[hn];simp only[↓hs2,go_sem,seval];cases hat:Lib.atoiAll t
  case range=>rw[hat]at hex;refine aC (E2 A.f92 A.atoi hex (by simp[AV.tree,treeL])) ?_;simp only[go_sem,seval];refine cN ?_;simp only[jD,hat]
  case ok v=>
   rw[hat]at hex;refine aC (E2 A.f92 A.atoi hex (by simp[AV.tree,treeL])) ?_;have hres:jD t=(decide (0<v)&&decide ((t.length:Int)+1<=10)&&decide (qE 20 v.toNat=t)):=by simp only[jD,hat]
   rw[hres];cases b1:decide (0<v)
   case false=>
    simp only[b1,go_sem,seval]
    first|(refine cN ?_;rfl)|kernel_rfl
   have hv0:0<v:=by simpa using b1
   have hvb:=Lib.atoiAll_bounds hat;have hit:Ret pg 93 [.int .i64 v] (.str (qE 20 v.toNat)):=by refine E2 A.f93 A.itoa ?_ rfl;simp only[oQ];rw[if_pos (by omega)]
   cases b2:decide ((t.length:Int)+1<=10)
   case false=>
    simp only[b1,hlen,hlen2,b2,go_sem,seval]
    first|(refine cN ?_;rfl)|kernel_rfl
   simp only[b1,hlen,hlen2,b2,go_sem,seval];refine aC hit ?_;simp only[↓hs2,go_sem,seval]
   first|(refine cN ?_;rfl)|kernel_rfl
  rw[hat]at hex;refine aC (E2 A.f92 A.atoi hex (by simp[AV.tree,treeL])) ?_;simp only[go_sem,seval];refine cN ?_;simp only[jD,hat]
 case false=>
  have hh:s.head? ≠ some 95:=by
   intro he;cases s with
   |nil=>simp at he
   |cons c t=>simp at he;subst he;simp at hu
  rw[I1 hh];simp only[go_sem,seval];refine eJ s (λd e=>eH e (some 36) (.int .i64 d.length)) (λd r hp=>nm true s=nm d.isEmpty r) rfl ?_ ?_ ?_;rfl;rintro hp hI;have:nm true s=true:=by rw[hI];simp[nm]
  rw[this];cases c1:decide (s=[]);simp only[GM,GL,c1,go_sem,seval];simp only[GM,GL,c1,go_sem,seval]
  ·rintro d c r hp hes hI;rw[hes]at hb hI;have hw:=cQ hb;rw[hes];have hnm:nm true (d++c::r)=((eZ c||(!d.isEmpty&&cT c))&&nm false r):=hI;have hde:decide ((d.length:Int)=0)=d.isEmpty:=by
    cases d with
    |nil=>simp
    |cons x r=>simp;omega
   have happ:(d++[c]).isEmpty=false:=by simp
   have hlet:eZ c=(!(decide ((c.toNat:Int)<97)) && !(decide ((122:Int)<c.toNat))):=by simp only[eZ];by_cases h1:97<=c.toNat<;>by_cases h2:c.toNat<=122<;>simp[h1,h2]<;>omega
   have hdig:cT c=(!(decide ((c.toNat:Int)<48)) && !(decide ((57:Int)<c.toNat))):=by simp only[cT];by_cases h1:48<=c.toNat<;>by_cases h2:c.toNat<=57<;>simp[h1,h2]<;>omega
   rw[hlet,hdig]at hnm;clear hlet hdig hI hes a91 hu hh hb';cases e1:decide ((c.toNat:Int)<97)<;>cases e2:decide ((122:Int)<c.toNat)<;>cases e3:d.isEmpty<;>cases e4:decide ((c.toNat:Int)<48)<;>cases e5:decide ((57:Int)<c.toNat)
   all_goals (rw[e1,e2,e3,e4,e5]at hnm)
   all_goals (rw[e3]at hde)
   all_goals (simp only[Bool.not_true,Bool.not_false,Bool.and_true,Bool.and_false,Bool.or_true,Bool.or_false,Bool.true_and,Bool.false_and]at hnm)
   all_goals (rw[hnm])
   all_goals (simp only[GM,GL,e1,e2,hde,e4,e5,hw,happ,go_sem,seval])
theorem c57(A:Ora pg)(hf:pg.fs 57=some R7)(h91:pg.fs 91=some M5)(h126:pg.fs 126=some w7)(s:Str):Ret pg 57 [.str s.bs] (.bool (fT s.bs)):=aRp A.n hf h91 h126 s
end
end
section
open Go.Sort
theorem C4(x:Int):∀l,(xG x l).Perm (x::l)
 |[]=>List.Perm.refl _
 |y::r=>by simp only[xG];split;exact List.Perm.refl _;exact((C4 x r).cons y).trans (List.Perm.swap x y r)
theorem yY:∀l,(mU l).Perm l
 |[]=>List.Perm.refl _
 |x::r=>(C4 x _).trans ((yY r).cons x)
theorem wO(x:Int):∀l:List Int,l.Pairwise (· <= ·)->(xG x l).Pairwise (· <= ·)
 |[],_=>by simp[xG]
 |y::r,h=>by simp only[xG];rw[List.pairwise_cons]at h;split;rename_i hxy;rw[List.pairwise_cons];refine⟨?_,List.pairwise_cons.2 h⟩;intro a ha;rcases List.mem_cons.1 ha with rfl|ha;exact hxy;exact Int.le_trans hxy (h.1 a ha);rename_i hxy;rw[List.pairwise_cons];refine⟨?_,wO x r h.2⟩;intro a ha;rcases (zR x a r).1 ha with rfl|ha;omega;exact h.1 a ha
theorem tK:∀l:List Int,(mU l).Pairwise (· <= ·)
 |[]=>List.Pairwise.nil
 |x::r=>wO x _ (tK r)
theorem rT:∀{a b:List Int},a.Perm b->a.Pairwise (· <= ·)->b.Pairwise (· <= ·)->a=b
 |[],b,h,_,_=>(List.Perm.nil_eq h)
 |x::r,[],h,_,_=>absurd h.symm.nil_eq (by simp)
 |x::r,y::s,h,ha,hb=>by
  rw[List.pairwise_cons]at ha hb;have h1:x<=y:=by have:y∈x::r:=h.symm.subset (by simp);rcases List.mem_cons.1 this with rfl|hy;exact Int.le_refl _;exact ha.1 y hy
  have h2:y<=x:=by have:x∈y::s:=h.subset (by simp);rcases List.mem_cons.1 this with rfl|hx;exact Int.le_refl _;exact hb.1 x hx
  obtain rfl:x=y:=by omega
  rw[rT (List.Perm.cons_inv h) ha.2 hb.2]
theorem TB(l:List Int):(l.mergeSort λx y=>decide (x<=y))=mU l:=by refine rT ((List.mergeSort_perm l _).trans (yY l).symm) ?_ (tK l);have:=List.pairwise_mergeSort (le:=λx y:Int=>decide (x<=y)) (by intro a b c h1 h2;simp at *;omega) (by intro a b;simp;omega) l;exact this.imp (by intro a b h;simpa using h)
theorem AR(x:Int):∀l:List Int,gF (l++[x])=gF l++(if l.getLast?=some x then [] else [x])
 |[]=>by simp[gF]
 |[a]=>by simp only[List.cons_append,List.nil_append,gF,List.getLast?_singleton,aU];split<;>simp[*]
 |a::b::r=>by have ih:=AR x (b::r);simp only[List.cons_append]at ih ⊢;simp only[gF,ih,List.getLast?_cons_cons];split<;>simp
theorem uH(zs:List Int):∀m,m<=zs.length->Lib.compactUpTo zs.toArray m=gF (zs.take m)
 |0,_=>by simp[Lib.compactUpTo,gF]
 |m+1,h=>by
  have ih:=uH zs m (by omega);have hm:zs.toArray[m]! = zs[m]'(by omega):=by rw[getElem!_pos _ _ (by simp;omega)];simp
  rw[List.take_succ_eq_append_getElem (by omega),AR,<-ih];simp only[Lib.compactUpTo,List.range_succ,List.filter_append,List.map_append];congr 1;cases m with
  |zero=>simp[Lib.keeps,hm];rw[cZ (by omega)];rfl
  |succ k=>
   have hk:zs.toArray[k]! = zs[k]'(by omega):=by rw[getElem!_pos _ _ (by simp;omega)];simp
   have hl:(zs.take (k+1)).getLast?=some (zs[k]'(by omega)):=by rw[List.take_succ_eq_append_getElem (by omega)];exact List.getLast?_concat
   simp only[List.filter_cons,List.filter_nil,Lib.keeps,hm,hl];by_cases he:zs[k+1]'(by omega)=zs[k]'(by omega);simp[hk,he];have he':¬zs[k]'(by omega)=zs[k+1]'(by omega):=λh=>he h.symm;simp[hk,he,he',hm];rw[cZ (by omega)];rfl
theorem M2(zs:List Int):Lib.compact zs=gF zs:=by rw[Lib.compact,uH zs zs.length (Nat.le_refl _),List.take_length]
theorem qF:∀(f u:Nat),u<10 ^ f->Lib.decDigits u=qE f u\/f=0
 |0,u,_ => .inr rfl
 |f+1,u,h=>by left;rw[qE,Lib.decDigits];by_cases h1:u<10;rw[dif_pos h1,if_pos h1];rw[dif_neg h1,if_neg h1];rcases qF f (u / 10) (by rw[Nat.pow_succ]at h;omega) with h2|h2;rw[h2];subst h2;simp at h;omega
theorem RF{n:Int}(h0:0<=n)(h1:n<=9223372036854775807):Lib.itoa n=qE 20 n.toNat:=by rw[Lib.itoa,if_neg (by omega)];rcases qF 20 n.toNat (by omega) with h|h;exact h;cases h
section
variable{P:Program}{num:Nm}{gl:Nat->Option AV}{gnum:Nat->Nat}{Fb:Nat->Prop}{B0:Nat}{ρ : Rho}{w w':World}{O:Nat->Prop}{h:Hp}
theorem lX(H:HpR num Fb B0 ρ w O h)(hb:RowKit.Below w.heap.size w w'):Evo ρ w O ρ w' O/\HpR num Fb B0 ρ w' O h:=by
 have ev:Evo ρ w O ρ w' O:=⟨hb.os,hb.tape,hb.output,hb.size,λb h1 _=>hb.block b h1,λ_ _ h=>h,λ_ _ _ h=>h⟩
 exact⟨ev,H.same ev (λb hO=>hb.block b (H.own b hO).2)⟩
def BZ (P:Program) (f:Nat):Prop:=∃fn,P.funcs[f]?=some fn/\fn.body.isSome=true/\fn.name ≠ "runtime.NumGoroutine"
theorem mQ{R:AV->Value->Prop}{x:AV}{vs:List Value}(h:aJ R [x] vs):∃c,vs=[c]/\R x c:=by
 cases h with
 |cons h1 h2=>cases h2;exact⟨_,rfl,h1⟩
theorem aGG(hfn:BZ P (num 93))(g:Nat)(hg:gl g=some (.agg (Lib.pow10Tab.map λn => .int .u64 n)))
  (hc:∀(n:Int),0<=n->n<=9223372036854775807->∀w:World,(∃T fr,w.heap[gnum g]?=some (.cells (Lib.pow10Tab.map λz=>Value.int .u64 z).toArray T fr)) ->
   Calls P (num 93) #[.int .i64 n] w λe w'=>e = .returned (.string ⟨(Lib.itoa n).toArray⟩)/\RowKit.Below w.heap.size w w') :
  gP P num gl gnum ⟨λf' avs kb h=>if f'=93 then oQ avs kb h else none,λ_ _ _ _=>none⟩:=by
 intro f avs kb h r h' hr;dsimp only at hr;split at hr
 case isFalse=>cases hr
 rename_i hf;subst hf;refine⟨hfn,?_⟩;intro Fb B0 ρ O w vs H hG hv;unfold oQ at hr;split at hr
 case h_2=>cases hr
 rename_i n;split at hr
 case isFalse=>cases hr
 rename_i hn;cases hr;obtain⟨c,rfl,hrv⟩:=mQ hv;cases hrv
 have htab:∃T fr,w.heap[gnum g]?=some (.cells (Lib.pow10Tab.map λz=>Value.int .u64 z).toArray T fr):=by
  obtain⟨⟨_,c,T,fr,h1,h2⟩,hp⟩:=hG g _ hg;refine⟨T,fr,?_⟩;rw[h1];have hsz:c.size=Lib.pow10Tab.length:=by rw[h2];simp[AV.cells]
  have hce:c=(Lib.pow10Tab.map λz=>Value.int .u64 z).toArray:=by
   apply Array.ext;simp[hsz];intro i hi1 hi2;obtain⟨b,off,m,hx,hF,hb,hm,hr⟩:=hp.of_fp;cases hx;have hil:i<Lib.pow10Tab.length:=by omega
   have h3:=hm i (by simp only[AV.cells,cP];exact hil);have h4:=hr i (.int .u64 (Lib.pow10Tab[i]'hil)) (by simp only[AV.cells,List.getElem?_map,cZ hil];rfl);rw[Nat.zero_add]at h3;simp only[World.cell?,h1,Option.isSome_none,Bool.false_eq_true,if_false,Array.getElem?_eq_getElem hi1,aU]at h3;rw[<-h3]at h4;have h5:=h4.of_int;rw[h5];simp
  rw[hce]
 refine(hc n hn.1 hn.2 w htab).mono ?_;rintro e w' ⟨rfl,hb⟩;obtain⟨ev,H'⟩:=lX H hb;refine⟨_,ρ,O,rfl,ev,H',?_⟩;rw[RF hn.1 hn.2];exact .str _
theorem aHr(hfn:BZ P (num 92))(g1 g2:Nat)(hg1:gl g1=some (.ifc .top))(hg2:gl g2=some (.ifc .top))
  (hok:∀(s:List UInt8),s.length<=16777216->∀v,Lib.atoiAll s = .ok v->∀w:World,Calls P (num 92) #[.string ⟨s.toArray⟩] w λe w'=>e = .returned (.tuple #[.int .i64 v,.nilIface])/\RowKit.Below w.heap.size w w')
  (hsy:∀(s:List UInt8),s.length<=16777216->(∀v,Lib.atoiAll s ≠ .ok v)->Lib.atoiAll s ≠ .range->∀(w:World)(te:TypeId)(pe:Value),w.cell? ⟨gnum g1,0,none⟩=some (.iface te pe) ->
   Calls P (num 92) #[.string ⟨s.toArray⟩] w λe w'=>∃t p,e = .returned (.tuple #[.int .i64 0,.iface t p])/\RowKit.Below w.heap.size w w')
  (hra:∀(s:List UInt8),s.length<=16777216->Lib.atoiAll s = .range->∀(w:World)(te:TypeId)(pe:Value),w.cell? ⟨gnum g2,0,none⟩=some (.iface te pe) ->
   Calls P (num 92) #[.string ⟨s.toArray⟩] w λe w'=>∃t p,e = .returned (.tuple #[.int .i64 (Lib.atoiSat s),.iface t p])/\RowKit.Below w.heap.size w w') :
  gP P num gl gnum ⟨λf' avs kb h=>if f'=92 then nP avs kb h else none,λ_ _ _ _=>none⟩:=by
 intro f avs kb h r h' hr;dsimp only at hr;split at hr
 case isFalse=>cases hr
 rename_i hf;subst hf;refine⟨hfn,?_⟩;intro Fb B0 ρ O w vs H hG hv;have hcell:∀g,gl g=some (.ifc .top)->∃te pe,w.cell? ⟨gnum g,0,none⟩=some (.iface te pe):=by
  intro g hg;obtain⟨_,hp⟩:=hG g _ hg;cases hp with
  |fp _ _ _ c hF hb hm hr=>have h1:=hm 0 (by simp[AV.cells]);have h2:=hr 0 (.ifc .top) (by simp[AV.cells]);simp only[Nat.add_zero]at h1;rw[h1];generalize c 0=ci at h2 ⊢;cases h2;exact⟨_,_,rfl⟩
 unfold nP at hr;split at hr
 case h_2=>cases hr
 rename_i s;split at hr
 case isFalse=>cases hr
 rename_i hs;obtain⟨c,rfl,hrv⟩:=mQ hv;cases hrv;split at hr;rename_i v ha;cases hr;refine(hok s hs v ha w).mono ?_;rintro e w' ⟨rfl,hb⟩;obtain⟨ev,H'⟩:=lX H hb;refine⟨_,ρ,O,rfl,ev,H',?_⟩;refine .tup _ _ rfl ?_;intro i x y hx hy
 match i,hx,hy with
 |0,hx,hy=>simp at hx hy;subst hx;subst hy;exact .int _ _
 |1,hx,hy=>simp at hx hy;subst hx;subst hy;exact .nili
 |i+2,hx,hy=>simp at hx
 rename_i ha;cases hr;obtain⟨te,pe,hce⟩:=hcell g2 hg2;refine(hra s hs ha w te pe hce).mono ?_;rintro e w' ⟨t,p,rfl,hb⟩;obtain⟨ev,H'⟩:=lX H hb;refine⟨_,ρ,O,rfl,ev,H',?_⟩;refine .tup _ _ rfl ?_;intro i x y hx hy
 match i,hx,hy with
 |0,hx,hy=>simp at hx hy;subst hx;subst hy;exact .int _ _
 |1,hx,hy=>simp at hx hy;subst hx;subst hy;exact .ifc _ _ _ (.top _)
 |i+2,hx,hy=>simp at hx
 rename_i ha1 ha2;cases hr;obtain⟨te,pe,hce⟩:=hcell g1 hg1;refine(hsy s hs (λv e=>ha1 v e) (λe=>ha2 e) w te pe hce).mono ?_;rintro e w' ⟨t,p,rfl,hb⟩;obtain⟨ev,H'⟩:=lX H hb;refine⟨_,ρ,O,rfl,ev,H',?_⟩;refine .tup _ _ rfl ?_;intro i x y hx hy
 match i,hx,hy with
 |0,hx,hy=>simp at hx hy;subst hx;subst hy;exact .int _ _
 |1,hx,hy=>simp at hx hy;subst hx;subst hy;exact .ifc _ _ _ (.top _)
 |i+2,hx,hy=>simp at hx
theorem vG:∀{cs:List AV}{zs:List Int},sR cs=some zs->cs=zs.map aV
 |[],zs,h=>by simp[sR]at h;subst h;rfl
 |x::r,zs,h=>by
  cases x with
  |int k n=>
   cases k<;>simp only[sR]at h
   case i64=>simp only[lH]at h;obtain⟨l,h1,rfl⟩:=h;rw[vG h1];rfl
   all_goals cases h
  |_=>simp[sR]at h
end
end
section
open Go.Sort
section
variable{P:Program}{num:Nm}{gl:Nat->Option AV}{gnum:Nat->Nat}{Fb:Nat->Prop}{B0:Nat}{ρ : Rho}{w w':World}{O:Nat->Prop}{h:Hp}
theorem Rv.int_eq{F:Nat->Prop}{n:Int}{y:Value}(h:Rv num ρ w F (aV n) y):y = .int .i64 n:=by have h':Rv num ρ w F (.int .i64 n) y:=h;cases h';rfl
theorem IE{k e off len:Nat}{cs:List AV}{esz:Nat}{ag ti fz:Bool}{L:Loc}{zs:List Int}(H:HpR num Fb B0 ρ w O h)(hg:h.get k=some (e,.blk cs esz ag ti fz))(hL : ρ k e=some L)
  (hz:(cs.drop off).take len=zs.map aV) (hl:off+len<=cs.length):Holds (Value.int .i64) w L.b (L.base+off) zs.toArray/\L.b<w.heap.size/\zs.length=len:=by
 obtain⟨L0,c,T,h1,h2,h3,h4,h5,h6,h7,h8,h9,h10⟩:=H.blk _ _ _ _ _ _ _ hg;rw[h1]at hL;cases hL;have hzl:zs.length=len:=by have:=congrArg List.length hz;simp at this;omega
 refine⟨?_,?_,hzl⟩;intro j hj;have hj':j<zs.length:=by simpa using hj
 have hx:cs[off+j]?=some (aV (zs[j]'hj')):=by have:=congrArg (λl:List AV=>l[j]?) hz;simp only[List.getElem?_map,List.getElem?_take,List.getElem?_drop,cZ hj',Option.map_some]at this;rw[if_pos (by omega)]at this;exact this
 obtain⟨y,hy,hr⟩:=h7 _ _ hx;have hy2:=hr.int_eq;subst hy2;refine⟨?_,?_⟩;simp only[World.cell?,h4,Option.isSome_none,Bool.false_eq_true,if_false];rw[Nat.add_assoc,hy,getElem!_pos zs.toArray j hj];simp;simp[World.frozen?,h4];by_cases hlt:L.b<w.heap.size;exact hlt;simp[Array.getElem?_eq_none (Nat.le_of_not_lt hlt)]at h4
theorem TH{k e off len n:Nat}{cs:List AV}{esz:Nat}{ag ti:Bool}{L:Loc}{zs:List Int}(H:HpR num Fb B0 ρ w O h)(hg:h.get k=some (e,.blk cs esz ag ti false))(hL : ρ k e=some L)
  (hz:zs.length=len) (hl:off+len<=cs.length) :
  Evo ρ w O ρ (putRow (Value.int .i64) (Sort.ahead w n) L.b (L.base+off) zs.toArray) O/\HpR num Fb B0 ρ (putRow (Value.int .i64) (Sort.ahead w n) L.b (L.base+off) zs.toArray) O (h.put k e (.blk (eF cs off (zs.map aV)) esz ag ti false)):=by
 obtain⟨L0,c,T,h1,h2,h3,h4,h5,h6,h7,h8,h9,h10⟩:=H.blk _ _ _ _ _ _ _ hg;rw[h1]at hL;cases hL
 have hget:∀i,(putCells (Value.int .i64) (L.base+off) zs.toArray c)[i]?=(c[i]?).map λx=>if L.base+off<=i/\i<L.base+off+zs.length then .int .i64 zs.toArray[i-(L.base+off)]! else x:=by intro i;simp only[putCells,Array.getElem?_mapIdx,List.size_toArray]
 refine H.write (c':=putCells (Value.int .i64) (L.base+off) zs.toArray c) (T:=T) hg h1 ⟨rfl,rfl,rfl,?_,?_,?_⟩ ?_ ?_ ?_;simp[putRow,mapBlock,Sort.ahead];simp only[putRow,mapBlock,Sort.ahead,Array.getElem?_modify,if_true,h4,Option.map_some,onCells];intro b hb;simp only[putRow,mapBlock,Sort.ahead,Array.getElem?_modify];rw[if_neg (λh=>hb h.symm)];simp only[putCells,Array.size_mapIdx];exact h5;simp only[eF,cO,List.length_take,List.length_drop,cP];omega;intro i x hx;rw[hget];simp only[eF,List.append_assoc]at hx;by_cases hi1:i<off;rw[List.getElem?_append_left (by simp;omega),List.getElem?_take,if_pos hi1]at hx;obtain⟨y,hy,hr⟩:=h7 _ _ hx;refine⟨y,?_,hr⟩;rw[hy,Option.map_some,if_neg (by omega)];rw[u4 (by simp;omega)]at hx;have htk:(cs.take off).length=off:=by simp;omega
 rw[htk]at hx;by_cases hi2:i<off+len;rw[List.getElem?_append_left (by simp;omega),List.getElem?_map]at hx;have hlt:i-off<zs.length:=by omega
 rw[cZ hlt,Option.map_some]at hx;cases hx;have hcs:i<cs.length:=by omega
 obtain⟨y,hy,_⟩:=h7 i _ (cZ hcs);refine⟨_,by rw[hy,Option.map_some,if_pos (by omega)],?_⟩;have e1:L.base+i-(L.base+off)=i-off:=by omega
 rw[e1,getElem!_pos zs.toArray (i-off) (by simpa using hlt)];simp only[List.getElem_toArray];exact .int _ _;rw[u4 (by simp;omega),List.getElem?_drop]at hx;have e2:off+(zs.map aV).length+(i-off-(zs.map aV).length)=i:=by simp;omega
 rw[e2]at hx;obtain⟨y,hy,hr⟩:=h7 _ _ hx;refine⟨y,?_,hr⟩;rw[hy,Option.map_some,if_neg (by omega)]
theorem MS(w:World)(os:Array Obj):RowKit.Below w.heap.size w (grow w os) where
 os:=rfl
 tape:=rfl
 output:=rfl
 size:=by simp[grow]
 block:=λk hk=>by simp[grow,Array.getElem?_append_left hk]
theorem aFn(hfn:BZ P (num 75))
  (hc:∀(blk off cap:Nat)(zs:List Int)(w:World),Holds (Value.int .i64) w blk off zs.toArray->blk<w.heap.size->zs.length<=16777216 ->
   Calls P (num 75) #[.slice (some ⟨blk,off,none⟩) zs.length cap] w λe w'=>e = .returned (.tuple #[])/\∃n os,w'=grow (putRow (Value.int .i64) (Sort.ahead w n) blk off (mU zs).toArray) os)
  (hn:∀(p:Option Addr)(cap:Nat)(w:World),Calls P (num 75) #[.slice p 0 cap] w λe w'=>e = .returned (.tuple #[])/\w'=w) :
  gP P num gl gnum ⟨λf' avs kb h=>if f'=75 then sZ avs kb h else none,λ_ _ _ _=>none⟩:=by
 intro f avs kb h r h' hr;dsimp only at hr;split at hr
 case isFalse=>cases hr
 rename_i hf;subst hf;refine⟨hfn,?_⟩;intro Fb B0 ρ O w vs H hG hv;have htup:∀{ρ : Rho}{w:World}{F:Nat->Prop},Rv num ρ w F (.tup []) (.tuple #[]):=.tup _ _ rfl (λi x y hx=>by simp at hx);unfold sZ at hr;split at hr;cases hr;obtain⟨c,rfl,hrv⟩:=mQ hv;have:∃p cap,c = .slice p 0 cap:=by cases hrv<;>exact⟨_,_,rfl⟩
 obtain⟨p,cap,rfl⟩:=this;refine(hn p cap w).mono ?_;rintro e w' ⟨rfl,rfl⟩;exact⟨_,ρ,O,rfl,Evo.refl _ _ _,H,htup⟩;rename_i k e off len cap;split at hr
 case h_2=>cases hr
 rename_i e' cs ti hg;split at hr
 case isFalse=>cases hr
 rename_i hcond;obtain⟨rfl,hle,hbig⟩:=hcond;split at hr
 case h_2=>cases hr
 rename_i zs hzs;cases hr;obtain⟨c,rfl,hrv⟩:=mQ hv;cases hrv with
 |rf _ _ _ _ _ cap' L hL hlen hcap ht hroom=>obtain⟨hH,hb,hzl⟩:=IE H hg hL (vG hzs) hle;have hcall:=hc L.b (L.base+off) cap' zs w hH hb (by omega);rw[hzl]at hcall;refine hcall.mono ?_;rintro e w' ⟨rfl,n,os,rfl⟩;obtain⟨ev,H1⟩:=TH (n:=n) H hg hL (zs:=mU zs) (by rw[u7];exact hzl) hle;obtain⟨ev2,H2⟩:=lX H1 (MS _ os);exact⟨_,ρ,O,rfl,ev.trans ev2,H2,htup⟩
 cases hr
theorem aGT(hfn:BZ P (num 76))
  (hc:∀(blk off cap:Nat)(zs:List Int)(w:World),Holds (Value.int .i64) w blk off zs.toArray->zs.length<=16777216->zs.length<=cap ->
   Calls P (num 76) #[.slice (some ⟨blk,off,none⟩) zs.length cap] w λe w'=>e = .returned (.slice (some ⟨blk,off,none⟩) (gF zs).length cap)/\∃q,w'=putRow (Value.int .i64) (Sort.ahead w q) blk off (gF zs++List.replicate (zs.length-(gF zs).length) 0).toArray)
  (hn:∀(p:Option Addr)(cap:Nat)(w:World),Calls P (num 76) #[.slice p 0 cap] w λe w'=>e = .returned (.slice p 0 cap)/\w'=w) :
  gP P num gl gnum ⟨λf' avs kb h=>if f'=76 then s6 avs kb h else none,λ_ _ _ _=>none⟩:=by
 intro f avs kb h r h' hr;dsimp only at hr;split at hr
 case isFalse=>cases hr
 rename_i hf;subst hf;refine⟨hfn,?_⟩;intro Fb B0 ρ O w vs H hG hv;unfold s6 at hr;split at hr;cases hr;obtain⟨c,rfl,hrv⟩:=mQ hv;have:∃p cap,c = .slice p 0 cap:=by cases hrv<;>exact⟨_,_,rfl⟩
 obtain⟨p,cap,rfl⟩:=this;refine(hn p cap w).mono ?_;rintro e w' ⟨rfl,rfl⟩;exact⟨_,ρ,O,rfl,Evo.refl _ _ _,H,hrv⟩;rename_i k e off len cap;split at hr
 case h_2=>cases hr
 rename_i e' cs ti hg;split at hr
 case isFalse=>cases hr
 rename_i hcond;obtain⟨rfl,hle,hbig⟩:=hcond;split at hr
 case h_2=>cases hr
 rename_i zs hzs;cases hr;obtain⟨c,rfl,hrv⟩:=mQ hv;cases hrv with
 |rf _ _ _ _ _ cap' L hL hlen hcap ht hroom=>
  obtain⟨hH,hb,hzl⟩:=IE H hg hL (vG hzs) hle;have hcl:=vP zs;have hcall:=hc L.b (L.base+off) cap' zs w hH (by omega) (by omega);rw[hzl]at hcall;refine hcall.mono ?_;rintro e w' ⟨rfl,n,rfl⟩;have hln:(gF zs++List.replicate (zs.length-(gF zs).length) 0).length=len:=by simp;omega
  obtain⟨ev,H1⟩:=TH (n:=n) H hg hL hln hle;rw[hzl]at ev H1 ⊢;exact⟨_,ρ,O,rfl,ev,H1,.rf _ _ _ _ _ cap' L hL (by omega) hcap ht hroom⟩
 cases hr
end
end
section
def yR:List AV->Option (List (List UInt8))
 |[]=>some []
 |.str s::r=>(yR r).map (s :: ·)
 |_=>none
def vL(args:List AV)(_:Nat)(h:Hp):Option (AV×Hp):=
 match args with
 |[.sl _ es _,.str sep]=>
  match yR es with
  |some l=>if l.length<=16777216/\(Lib.join l sep).length<=140737488355328 then some (.str (Lib.join l sep),h) else none
  |none=>none
 |_=>none
theorem B5:∀{es:List AV}{l:List (List UInt8)},yR es=some l->es=l.map AV.str
 |[],l,h=>by cases h;rfl
 |.str s::r,l,h=>by simp only[yR,lH]at h;obtain⟨l',h1,rfl⟩:=h;rw[B5 h1];rfl
 |.top::_,_,h|.bool _::_,_,h|.int _ _::_,_,h|.nilp::_,_,h|.nilm::_,_,h|.nilf::_,_,h|.nili::_,_,h|.agg _::_,_,h|.tup _::_,_,h|.sl _ _ _::_,_,h|.fp _::_,_,h
 |.rf _ _ _ _ _::_,_,h|.pt _ _ _::_,_,h|.mp _ _::_,_,h|.yl _ _::_,_,h|.fn _ _::_,_,h|.ifc _::_,_,h|.os _ _ _::_,_,h|.ift _ _::_,_,h|.fnm _ _::_,_,h=>by simp[yR]at h
section
variable{P:Program}{num:Nm}{gl:Nat->Option AV}{gnum:Nat->Nat}{Fb:Nat->Prop}{B0:Nat}{ρ : Rho}{w w':World}{O:Nat->Prop}{h:Hp}
theorem aGF(F:Nat)(hfn:BZ P (num F))
  (h0:∀(a:Option Addr)(c:Nat)(sep:ByteArray)(w:World),Calls P (num F) #[.slice a 0 c,.string sep] w λe w'=>e = .returned (.string ⟨#[]⟩)/\w'=w)
  (hc:∀(bk o c:Nat)(xs:List ByteArray)(sep:ByteArray)(w:World),(∀(j:Nat) x,xs[j]?=some x->w.cell? ⟨bk,o+j,none⟩=some (.string x))->bk<w.heap.size->xs.length<=140737488355328->xs.length<=c ->
   (Lib.join (xs.map (·.data.toList)) sep.data.toList).length<=140737488355328 ->
   Calls P (num F) #[.slice (some ⟨bk,o,none⟩) xs.length c,.string sep] w λe w'=>e = .returned (.string ⟨(Lib.join (xs.map (·.data.toList)) sep.data.toList).toArray⟩)/\RowKit.Below w.heap.size w w') :
  gP P num gl gnum ⟨λf' avs kb h=>if f'=F then vL avs kb h else none,λ_ _ _ _=>none⟩:=by
 intro f avs kb h r h' hr;dsimp only at hr;split at hr
 case isFalse=>cases hr
 rename_i hf;subst hf;refine⟨hfn,?_⟩;intro Fb B0 ρ O w vs H hG hv;unfold vL at hr;split at hr
 case h_2=>cases hr
 rename_i nl es cl sep;split at hr
 case h_2=>cases hr
 rename_i l hl;split at hr
 case isFalse=>cases hr
 rename_i hb;cases hr;obtain rfl:=B5 hl
 obtain⟨a,rfl,ha⟩:∃a,vs=[a,.string ⟨sep.toArray⟩]/\Rv num ρ w (λb=>Fb b\/O b) (.sl nl (l.map AV.str) cl) a:=by
  cases hv with
  |cons ha h2=>cases h2 with
   |cons hcs h3=>cases h3;obtain rfl:=hcs.of_str;exact⟨_,rfl,ha⟩
 cases l with
 |nil=>
  have:∃p cap,a = .slice p 0 cap:=by cases ha<;>exact⟨_,_,rfl⟩
  obtain⟨p,cap,rfl⟩:=this;refine(h0 p cap _ w).mono ?_;rintro e w' ⟨rfl,rfl⟩;exact⟨_,ρ,O,rfl,Evo.refl _ _ _,H,.str _⟩
 |cons s r=>
  generalize hls:s::r=l at *;have hne:l.map AV.str≠[]:=by rw[<-hls];simp
  obtain⟨es,hes⟩:∃es,es=l.map AV.str:=⟨_,rfl⟩
  rw[<-hes]at ha hne;cases ha with
  |nsl=>exact absurd rfl hne
  |sl _ _ b off cap sz c hcap hcl hF hz hm hr sp hsp=>
   obtain rfl:=hsp hne;have hsz:sz=1:=by have:=hz 0 (.str s) (by rw[hes,<-hls];rfl);simpa[AV.cells] using this.symm
   subst hsz
   have hce:∀(j:Nat)(x:ByteArray),(l.map λs=>(⟨s.toArray⟩:ByteArray))[j]?=some x->w.cell? ⟨b,off+j,none⟩=some (.string x):=by
    intro j x hx;rw[List.getElem?_map,lH]at hx;obtain⟨t,ht,rfl⟩:=hx;have hlt:j<l.length:=by rcases Nat.lt_or_ge j l.length with h|h;exact h;rw[cY h]at ht;cases ht
    have h1:=hm j (by rw[hes];simpa using hlt);have h2:=hr j (.str t) 0 (.str t) (by rw[hes,List.getElem?_map,ht];rfl) rfl;rw[Nat.mul_one,Nat.add_zero]at h2;rw[h1,h2.of_str]
   have hmap:(l.map λs=>(⟨s.toArray⟩:ByteArray)).map (·.data.toList)=l:=by rw[List.map_map];exact List.map_id'' (λs=>rfl) l
   have hlen:(l.map λs=>(⟨s.toArray⟩:ByteArray)).length=es.length:=by rw[hes];simp
   have:=hc b off cap (l.map λs=>(⟨s.toArray⟩:ByteArray)) ⟨sep.toArray⟩ w hce (hF hne).2 (by rw[cP];omega) (by rw[hlen];exact hcap) (by rw[hmap];simpa using hb.2);rw[hmap,hlen]at this;refine this.mono ?_;rintro e w' ⟨rfl,hbe⟩;obtain⟨ev,H'⟩:=lX H hbe;exact⟨_,ρ,O,rfl,ev,H',.str _⟩
end
end
end Go.Tev
section
namespace Go.Proofs
open Go.Shelf
def Tryz.lays156_ren:Go.Shelf.Ren:=⟨λ|156=>169|165=>223|166=>224|169=>225|240=>253|241=>254|276=>299|277=>300|n=>n,λ|31=>49|9=>9|3=>3|4=>4|0=>0|20=>20|72=>292|76=>234|70=>290|37=>201|75=>233|127=>319|164=>358|5=>5|80=>294|n=>n,λ|n=>n⟩
theorem lC{α : Type}{x:Option α}{a b : α}(h:x=some a)(k:a=b:=by kernel_rfl):x=some b:=h.trans (congrArg some k)
theorem Tryz.lays156:Go.Proofs.Lays.n156 Tryz.prog Tryz.lays156_ren:={
 mixed:=by kernel_rfl
 f156:=lC Tryz.func169
 f165:=lC Tryz.func223
 f166:=lC Tryz.func224
 f169:=lC Tryz.func225
 f240:=lC Tryz.func253
 f241:=lC Tryz.func254
 f276:=lC Tryz.func299
 f277:=lC Tryz.func300
 t0:=Tryz.underlying0
 a0:=Tryz.isAgg0
 z0:=Tryz.sizeOf0
 v0:=Tryz.zeroValue0
 t3:=Tryz.underlying3
 a3:=Tryz.isAgg3
 z3:=Tryz.sizeOf3
 v3:=Tryz.zeroValue3
 t4:=Tryz.underlying4
 a4:=Tryz.isAgg4
 z4:=Tryz.sizeOf4
 v4:=Tryz.zeroValue4
 t9:=Tryz.underlying9
 a9:=Tryz.isAgg9
 z9:=Tryz.sizeOf9
 v9:=Tryz.zeroValue9
 t20:=Tryz.underlying20
 a20:=Tryz.isAgg20
 z20:=Tryz.sizeOf20
 v20:=Tryz.zeroValue20
 t31:=Tryz.underlying49
 a31:=Tryz.isAgg49
 z31:=Tryz.sizeOf49
 v31:=Tryz.zeroValue49
 t37:=Tryz.underlying201
 a37:=Tryz.isAgg201
 z37:=Tryz.sizeOf201
 v37:=Tryz.zeroValue201
 t70:=Tryz.underlying290
 a70:=Tryz.isAgg290
 z70:=Tryz.sizeOf290
 v70:=Tryz.zeroValue290
 t72:=Tryz.underlying292
 a72:=Tryz.isAgg292
 z72:=Tryz.sizeOf292
 v72:=Tryz.zeroValue292
 t75:=Tryz.underlying233
 a75:=Tryz.isAgg233
 z75:=Tryz.sizeOf233
 v75:=Tryz.zeroValue233
 t76:=Tryz.underlying234
 a76:=Tryz.isAgg234
 z76:=Tryz.sizeOf234
 v76:=Tryz.zeroValue234
 t127:=Tryz.underlying319
 a127:=Tryz.isAgg319
 z127:=Tryz.sizeOf319
 v127:=Tryz.zeroValue319
 t164:=Tryz.underlying358
 a164:=Tryz.isAgg358
 z164:=Tryz.sizeOf358
 v164:=Tryz.zeroValue358}
theorem Tryz.joinX:Builder.Extra Tryz.prog Tryz.lays156_ren where
 sizeBuilder:=by kernel_rfl
 liesBuilder:=by kernel_rfl
 t5:=Tryz.underlying5
 a5:=Tryz.isAgg5
 z5:=Tryz.sizeOf5
 v5:=Tryz.zeroValue5
 infoByte:=by kernel_rfl
 cellsByte:=by kernel_rfl
 sizeByte:=by kernel_rfl
 neB5:=by decide
end Go.Proofs
end
