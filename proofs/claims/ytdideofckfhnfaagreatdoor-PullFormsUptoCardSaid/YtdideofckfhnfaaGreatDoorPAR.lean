import Derived.Test.YtdideofckfhnfaaGreatDoorPAQ
import Derived.Lib.AtoiAll
import Derived.Lib.AtoiAllCases
import Derived.Test.YtdideofckfhnfaaGreatDoorPAH
import Derived.Lib.SlicesCompact
import Derived.Lib.ItoaNum
import Derived.Lib.AtoiErrMem
import Derived.Sort.Grow
import Derived.Lib.Join
import Derived.Lib.IndexMore
set_option linter.all false
namespace Go.Tev
section
mutual
def aA.sz:aA->Nat
 |.mk _ _ _ _ _ _ _ _ _ kids _=>1+aA.szL kids
def aA.szL:List aA->Nat
 |[]=>0
 |p::r=>p.sz+aA.szL r
end
theorem aA.sz_eq(p:aA):p.sz=1+aA.szL p.kids:=by cases p;rw[aA.sz];rfl
theorem aA.szL_mem:∀{l:List aA}{q:aA},q∈l->q.sz<=aA.szL l
 |x::r,q,h=>by rcases List.mem_cons.1 h with rfl|h;rw[aA.szL];omega;have:=aA.szL_mem h;rw[aA.szL];omega
mutual
def eH(values:Int):aA->List Str->Bool
 |.mk op num value name at_ dyn check fn knl kids kcl,vars=>
  cR (.mk op num value name at_ dyn check fn knl kids kcl) vars values&&dQ at_.es vars&&eW values (decide (op.bs=[114,101,100,117,99,101])) name vars 0 kids
def eW(values:Int)(red:Bool)(name:Str)(vars:List Str):Nat->List aA->Bool
 |_,[]=>true
 |i,k::r=>eH values k (if red&&decide ((i:Int)=1) then vars++[name] else vars)&&eW values red name vars (i+1) r
end
theorem l0(values:Int)(p:aA)(vars:List Str):eH values p vars=(cR p vars values&&dQ p.at_.es vars&&eW values (decide (p.op.bs=[114,101,100,117,99,101])) p.name vars 0 p.kids):=by cases p;rw[eH];rfl
theorem Own.snap{h:Hp}{k0 esz:Nat}{ag:Bool}{v:AV}{es:List AV}(o:Own h k0 esz ag v es)(he:∀x∈es,El esz ag x)(d:Nat):∃nl cl keys,Tev.snap (d+2) h v=some (.sl nl es cl,keys)/\(nl=true->es=[]):=by
 rcases o with ⟨rfl,nl,cl,rfl,hc⟩|⟨e,cs,rfl,hg,hu⟩
 exact⟨nl,cl,[],by rw[nH];rfl,λ_=>rfl⟩;obtain⟨cs',h1,h2,h3,h4⟩:=cU he;rw[hu]at h1;cases h1;have h5:=h4 [];rw[List.append_nil]at h5;have ht:treeL es=true:=by
  clear h2 h4 h5 hu hg
  induction es with
  |nil=>rfl
  |cons x r ih=>simp only[treeL,aD];exact⟨(he x (by simp)).tree,ih (λy hy=>he y (bU _ hy))⟩
 have h6:bO (Tev.snap (d+1) h) es=some (es,[]):=fJ d h ht;exact⟨false,false,[k0],by rw[nH];simp[hg,h5,h6,AV.tree],λh=>by cases h⟩
theorem C9{h:Hp}{d:Nat}{a:AV}(ha:a.tree=true):Tev.snap (d+1) h a=some (a,[]):=by rw[nH,if_pos ha]
theorem rW{h:Hp}{d:Nat}{a b c b':AV}{keys:List Nat}(ha:a.tree=true)(hb:Tev.snap (d+1) h b=some (b',keys))(hc:c.tree=true):bO (Tev.snap (d+1) h) [a,b,c]=some ([a,b',c],keys):=by simp[gP,nM,C9 ha,C9 hc,hb]
section
variable{pg:Pg}
theorem c147(hf:pg.fs 147=some zP)(h182:∀(p:aA),p.kids.length<=big->∀(nl cl:Bool) (vars:List Str),vars.length<=big->∀v:Int,Ret pg 182 [p.av,.sl nl (vars.map Str.av) cl,.int .i64 v] (.bool (cR p vars v)))
  (h183:∀(nl cl:Bool)(ls:List Lin),ls.length<=big->∀(nl' cl':Bool)(vars:List Str),vars.length<=big->Ret pg 183 [.sl nl (ls.map Lin.av) cl,.sl nl' (vars.map Str.av) cl'] (.bool (dQ ls vars)))
  (h184:pg.fs 184=some vE) (h209:pg.fs 209=some sW) (v:Int) :
  ∀p:aA,p.ok->∀(nl cl:Bool)(vars:List Str),vars.length+p.sz<=big->Ret pg 147 [p.av,.sl nl (vars.map Str.av) cl,.int .i64 v] (.bool (eH v p vars)):=by
 refine aA.ind' λp ih hp nl cl vars hb=>?_;obtain⟨hk,hks⟩:=(aA.ok_iff p).1 hp;have hsz:=aA.sz_eq p;have a1:=h182 p hk nl cl vars (by omega) v;have a2:=h183 p.at_.nl p.at_.cl p.at_.es p.at_.ok nl cl vars (by omega);rw[aA.avc]at a1;clear h182 h183;refine Ret.ofX hf ?_;unfold zP;refine Wk ?_;refine aC (a1) (Wk ?_);cases b1:cR p vars v;refine Wk ?_;rw[l0,b1];rfl;refine Wk ?_;refine aC (a2) (Wk ?_);cases b2:dQ p.at_.es vars;refine Wk ?_;rw[l0,b1,b2];rfl;refine Wk ?_;generalize hred:decide (p.op.bs=[114,101,100,117,99,101])=red;have hspec:eH v p vars=eW v red p.name vars 0 p.kids:=by rw[l0,b1,b2,hred];rfl
 rw[hspec];refine cN p.kids (λd e=>cG e (some 25) (.int .i64 d.length)) (λd r hp=>hp.get 1=some (0,.blk [.str p.op.bs,.int .i64 p.num,.int .i64 p.value,.str p.name.bs,.sl p.at_.nl (p.at_.es.map Lin.av) p.at_.cl,.bool p.dyn,.int .i64 p.check,.sl p.fn.nl (p.fn.es.map aE.av) p.fn.cl,.sl p.knl (p.kids.map aA.av) p.kcl] 9 true true false)/\eW v red p.name vars 0 p.kids=eW v red p.name vars d.length r) rfl ?_ ?_ ?_;exact⟨rfl,rfl⟩;rintro hp ⟨h1,hI⟩;simp only[xI,xH,go_sem,seval];rw[hI];rfl;rintro d x r hp hes ⟨h1,hI⟩;have hxm:x∈p.kids:=by rw[hes];simp
 have hxs:x.sz<=aA.szL p.kids:=aA.szL_mem hxm;have hx:=ih x hxm (hks x hxm);simp only[eW]at hI;have hb2:(d++x::r).length<=big:=by rw[<-hes];exact hk
 have hlast:∀own:List Str,∀hp2:Hp,hp2.get 1=hp.get 1->eH v x own=eH v x (if red&&decide ((d.length:Int)=1) then vars++[p.name] else vars)->True:=λ_ _ _ _=>trivial;have h0:=h1;rw[hes]at h1 ⊢;simp only[xI,xH,h1,hred,go_sem,seval];cases c1:red;refine Wk ?_;have hx1:=hx nl cl vars (by omega);rw[aA.avc]at hx1;refine aC (hx1) ?_;rw[c1]at hI;refine Wk ?_;cases b3:eH v x vars;refine Wk ?_;rw[<-hes,hI];simp[b3];simp only[bL hb2,go_sem,seval];rw[<-hes];exact⟨h0,by simpa[b3] using hI⟩;refine Wk ?_;cases c2:decide ((d.length:Int)=1);simp only[c2,go_sem,seval];have hx1:=hx nl cl vars (by omega);rw[aA.avc]at hx1;refine aC (hx1) ?_;rw[c1,c2]at hI;refine Wk ?_;cases b3:eH v x vars;refine Wk ?_;rw[<-hes,hI];simp[b3];simp only[bL hb2,go_sem,seval];rw[<-hes];exact⟨h0,by simpa[b3] using hI⟩;simp only[c2,h1,go_sem,seval];refine JT (c184 h184 h209 nl cl vars p.name (by omega)) (by simp only[go_sem,seval]) (El.strs (vars++[p.name])) ?_;intro v' rd pa ho hkk hpa;simp only[hkk,go_sem,seval];obtain⟨nl2,cl2,keys,hsn,hnl⟩:=ho.snap (El.strs (vars++[p.name])) 62;have hx2:=hx nl2 cl2 (vars++[p.name]) (by simp;omega);rw[aA.avc]at hx2;refine kX hx2 (rW (by simp only[go_sem,seval]) hsn (by simp only[go_sem,seval])) (v:=.bool (eH v x (vars++[p.name]))) (pa:=[]) rfl ?_;rw[c1,c2]at hI;simp only[hkk,go_sem,seval];cases b3:eH v x (vars++[p.name]);refine Wk ?_;rw[<-hes,hI];simp[b3];simp only[bL hb2,hkk,go_sem,seval];rw[<-hes];exact⟨h0,by simpa[b3] using hI⟩
def mW(p:aA)(vars:List Str)(v:Int):Bool:=decide (kN p<=4000)&&eH v p vars
theorem c109(hf:pg.fs 109=some zZ)(h146:pg.fs 146=some vI)(h147:∀p:aA,p.ok->∀(nl cl:Bool) (vars:List Str),vars.length+p.sz<=big->∀v:Int,Ret pg 147 [p.av,.sl nl (vars.map Str.av) cl,.int .i64 v] (.bool (eH v p vars)))
  (p:aA) (hp:p.ok) (nl cl:Bool) (vars:List Str) (hb:vars.length+p.sz<=big) (v:Int):Ret pg 109 [p.av,.sl nl (vars.map Str.av) cl,.int .i64 v] (.bool (mW p vars v)):=by
 have a1:=c146 h146 p hp;have a2:=h147 p hp nl cl vars hb v;rw[aA.avc]at a1 a2;refine Ret.ofX hf ?_;clear h146 h147;unfold zZ
 repeat' (first|simp only[*,go_sem,seval]|refine bC (λ_=>?_) (λ_=>?_)|refine bD (λ_=>?_) (λ_=>?_)|(refine aC a1 ?_)|(refine aC a2 ?_)|refine bP ?_)
 all_goals (clear a1 a2)
 all_goals (simp_all [mW])
 all_goals (intro h;exfalso;omega)
def dJ(a b:aE):Bool:=decide (a.op.bs=b.op.bs)&&decide (a.num=b.num)&&eqL (λx y=>decide (x=y)) a.args.es b.args.es
mutual
def d8:aA->aA->Bool
 |.mk op num value name at_ dyn check fn knl kids kcl,q=>decide (op.bs=q.op.bs)&&decide (num=q.num)&&decide (value=q.value)&&decide (name.bs=q.name.bs)&&(dyn==q.dyn)&&decide (check=q.check)&&eqL cS at_.es q.at_.es&&eqL dJ fn.es q.fn.es&&jX kids q.kids
def jX:List aA->List aA->Bool
 |[],l=>l.isEmpty
 |p::r,l=>match l with|[]=>false|q::s=>d8 p q&&jX r s
end
theorem l7(p q:aA):d8 p q=(decide (p.op.bs=q.op.bs)&&decide (p.num=q.num)&&decide (p.value=q.value)&&decide (p.name.bs=q.name.bs)&&(p.dyn==q.dyn)&&decide (p.check=q.check)&&eqL cS p.at_.es q.at_.es&&eqL dJ p.fn.es q.fn.es&&jX p.kids q.kids):=by cases p;rw[d8];rfl
theorem jG:∀a b:List aA,jX a b=eqL d8 a b
 |[],[]=>by simp[jX,eqL]
 |[],_::_=>by simp[jX,eqL]
 |_::_,[]=>by simp[jX,eqL]
 |p::r,q::s=>by simp[jX,eqL,jG r s]
theorem c181(hf:pg.fs 181=some zM)(nl cl nl' cl':Bool)(es es':List Int)(hb:es.length<=big):Ret pg 181 [.sl nl (es.map aI) cl,.sl nl' (es'.map aI) cl'] (.bool (eqL (λx y=>decide (x=y)) es es')):=
 II (f:=181) (k:=.bin .neq) hf aI (λ_=>rfl) nl cl nl' cl' es es' hb _ (by intro kb s h x y Q t;simp only[go_sem,seval]) rfl
theorem c180(hf:pg.fs 180=some zN)(h181:pg.fs 181=some zM)(a b:aE):Ret pg 180 [a.av,b.av] (.bool (dJ a b)):=by
 have k:=c181 h181 a.args.nl a.args.cl b.args.nl b.args.cl a.args.es b.args.es a.args.ok;refine Ret.ofX hf ?_;unfold zN
 repeat' (first|simp only[*,go_sem,seval]|refine bC (λ_=>?_) (λ_=>?_)|refine bD (λ_=>?_) (λ_=>?_)|(refine aC k ?_)|refine bP ?_)
 all_goals (clear k)
 all_goals (simp_all [dJ])
theorem c179(hf:pg.fs 179=some D0)(h180:∀a b:aE,Ret pg 180 [a.av,b.av] (.bool (dJ a b)))(nl cl nl' cl':Bool)(es es':List aE)(hb:es.length<=big) :
  Ret pg 179 [.sl nl (es.map aE.av) cl,.sl nl' (es'.map aE.av) cl',.fn 180 []] (.bool (eqL dJ es es')):=
 BP (f:=179) (esz:=3) (ag:=true) rfl hf aE.av (λx=>[.str x.op.bs,.int .i64 x.num,x.args.av aI]) (λ_=>rfl) (λ_=>rfl) (λ_=>rfl) rfl (λx=>by simp only[go_sem,seval]) nl cl nl' cl' es es' hb 180 dJ (λx _ y _=>h180 x y)
theorem c144(hf:pg.fs 144=some zQ)(h179:∀(nl cl nl' cl':Bool) (es es':List aE),es.length<=big->Ret pg 179 [.sl nl (es.map aE.av) cl,.sl nl' (es'.map aE.av) cl',.fn 180 []] (.bool (eqL dJ es es')))
  (nl cl nl' cl':Bool) (es es':List aE) (hb:es.length<=big):Ret pg 144 [.sl nl (es.map aE.av) cl,.sl nl' (es'.map aE.av) cl'] (.bool (eqL dJ es es')):=by
 have k:=h179 nl cl nl' cl' es es' hb;refine Ret.ofX hf ?_;clear h179;unfold zQ
 repeat' (first|simp only[*,go_sem,seval]|refine bC (λ_=>?_) (λ_=>?_)|refine bD (λ_=>?_) (λ_=>?_)|(refine aC k ?_)|refine bP ?_)
theorem aA.one_cells(x:aA):aV x.cells=true:=rfl
theorem c105(hf:pg.fs 105=some z8)(h67:∀(nl cl nl' cl':Bool) (es es':List Lin),es.length<=big->Ret pg 67 [.sl nl (es.map Lin.av) cl,.sl nl' (es'.map Lin.av) cl',.fn 143 []] (.bool (eqL cS es es')))
  (h144:∀(nl cl nl' cl':Bool)(es es':List aE),es.length<=big->Ret pg 144 [.sl nl (es.map aE.av) cl,.sl nl' (es'.map aE.av) cl'] (.bool (eqL dJ es es'))) (h145:pg.fs 145=some D3) :
  ∀p:aA,p.ok->∀q:aA,Ret pg 105 [p.av,q.av] (.bool (d8 p q)):=by
 refine aA.ind' λp ih hp q=>?_;obtain⟨hk,hks⟩:=(aA.ok_iff p).1 hp;have a1:=h67 p.at_.nl p.at_.cl q.at_.nl q.at_.cl p.at_.es q.at_.es p.at_.ok;have a2:=h144 p.fn.nl p.fn.cl q.fn.nl q.fn.cl p.fn.es q.fn.es p.fn.ok;have a3:Ret pg 145 [.sl p.knl (p.kids.map aA.av) p.kcl,.sl q.knl (q.kids.map aA.av) q.kcl,.fn 105 []] (.bool (eqL d8 p.kids q.kids)):=
  BP (f:=145) (esz:=9) (ag:=true) rfl h145 aA.av aA.cells aA.av_eq (λ_=>rfl) aA.one_cells rfl aA.tree_av p.knl p.kcl q.knl q.kcl p.kids q.kids hk 105 d8 (λx hx y _=>ih x hx (hks x hx) y)
 refine Ret.ofX hf ?_;clear h67 h144 ih hks;unfold z8
 repeat' (first|simp only[*,go_sem,seval]|refine bC (λ_=>?_) (λ_=>?_)|refine bD (λ_=>?_) (λ_=>?_)|(refine aC a1 ?_)|(refine aC a2 ?_)|(refine aC a3 ?_)|refine bP ?_)
 all_goals (clear a1 a2 a3)
 all_goals (rw[l7,jG])
 all_goals (simp_all)
end
end
section
mutual
def cO:aA->List Int
 |.mk op _ value _ _ _ _ _ _ kids _=>(if decide (op.bs=[114,101,97,100]) then [value] else [])++fA kids
def fA:List aA->List Int
 |[]=>[]
 |p::r=>cO p++fA r
end
theorem EP(p:aA):cO p=(if decide (p.op.bs=[114,101,97,100]) then [p.value] else [])++fA p.kids:=by cases p;rw[cO];rfl
theorem pN:∀(d:List aA)(x:aA),fA (d++[x])=fA d++cO x
 |[],x=>by simp[fA]
 |y::d,x=>by simp[fA,pN d x]
mutual
theorem rI:∀p:aA,(cO p).length<=p.sz
 |.mk op num value name at_ dyn check fn knl kids kcl=>by have:=mV kids;rw[cO,aA.sz,d6];split<;>simp<;>omega
theorem mV:∀l:List aA,(fA l).length<=aA.szL l
 |[]=>by simp[fA,aA.szL]
 |p::r=>by have h1:=rI p;have h2:=mV r;simp only[fA,aA.szL,d6];omega
end
def iP(pg:Pg)(f:Nat)(vs:List AV)(kb:Nat)(h:Hp)(P:AV->Hp->Prop):Prop:=∃r h',nE pg f vs kb h r h'/\P r h'
def DU(res:List (Sum Nat (Nat×Nat×Bool)))(P:AV->Hp->Prop)(ex:Ex)(st:St):Prop:=
 match ex with
 |.ext _=>False
 |_=>∃v,result st res=some v/\P v st.hp
theorem FG(res:List (Sum Nat (Nat×Nat×Bool)))(P:AV->Hp->Prop)(st:St):DU res P .nor st=∃v,result st res=some v/\P v st.hp:=rfl
theorem FF(res:List (Sum Nat (Nat×Nat×Bool)))(P:AV->Hp->Prop)(st:St):DU res P .ret st=∃v,result st res=some v/\P v st.hp:=rfl
attribute [go_sem ↓] FG FF
section
variable{pg:Pg}{kb:Nat}
theorem iP.ofX{f:Nat}{cf:CF}{vs:List AV}{h:Hp}{P:AV->Hp->Prop}(hf:pg.fs f=some cf)(hw:XX pg kb cf.body ⟨enter cf vs,h⟩ (DU cf.res P) ⟨⟩):iP pg f vs kb h P:=by
 obtain⟨n,ex,st,h1,h2⟩:=hw;cases ex with
 |ext i=>exact h2.elim
 |nor=>obtain⟨v,h3,h4⟩:=h2;exact⟨v,st.hp,nE.of hf ⟨n,.nor,st,h1,trivial,h3,rfl⟩,h4⟩
 |ret=>obtain⟨v,h3,h4⟩:=h2;exact⟨v,st.hp,nE.of hf ⟨n,.ret,st,h1,trivial,h3,rfl⟩,h4⟩
theorem pH{f s:Nat}{th im:Bool}{h:Hp}{vs:List AV}{P:AV->Hp->Prop}{Q:AV->Eff->Prop}{t:Tok Q}(hm:im=true\/bO (snap depth h) vs=none){B:Nat}(hB:gJ kb s vs=B)(hr:iP pg f vs B h P)
   (hq:∀r h',P r h'->Q r (.whole h')):XO pg kb (.call f th im) s h vs Q t:=by
 obtain⟨r,h',h1,h2⟩:=hr;exact lY hm hB h1 (hq r h' h2)
theorem OT{esz bytes s k1:Nat}{ag:Bool}{h:Hp}{v:AV}{es xs:List AV}{nl cl:Bool}{Q:AV->Eff->Prop}{t:Tok Q}(o:Own h k1 esz ag v es)(he:∀x∈es,El esz ag x)(hx:∀x∈xs,El esz ag x)(hxs:xs≠[])
  (hl:es.length+xs.length<=1073741824) (hb:bytes<=65536)
  (q2:∀v' rd pa,Own (Eff.app h (.pat rd pa)) (kb+s) esz ag v' (es++xs)->(∀k,k≠kb+s->k≠k1->(Eff.app h (.pat rd pa)).get k=h.get k)->Q v' (.pat rd pa)) :
  XO pg kb (.app esz ag bytes) s h [v,.sl nl xs cl] Q t:=by
 by_cases hk:k1=kb+s;subst hk;exact xY o he hx hl hb (λv' rd pa h1 h2 _=>q2 v' rd pa h1 (λk h3 _=>h2 k h3));exact xX o hk he hx hl hb (λh=>absurd h hxs) (λ_ v' rd pa h1 h2=>q2 v' rd pa h1 h2)
theorem l8{f:AV->Option (AV×List Nat)}:∀{l:List AV}{x:AV},x∈l->f x=none->bO f l=none
 |y::r,x,h,hf=>by
  rcases List.mem_cons.1 h with rfl|h;simp[gP,hf];rw[gP];cases f y with
  |none=>rfl
  |some p=>simp[l8 h hf]
theorem mS{h:Hp}{f kw ew:Nat}{cs:List AV}{ti fz:Bool}(hg:h.get kw=some (ew,.blk [.fn f cs] 1 false ti fz))(hm:AV.pt kw ew 0∈cs):∀d,snap d h (.pt kw ew 0)=none
 |0=>rfl
 |1=>by rw[nH];simp[AV.tree,hg,gP,snap]
 |d+2=>by
  have ih:=mS hg hm d;have hms:=l8 hm ih;have ht:treeL cs=false:=by
   clear hms ih hg
   induction cs with
   |nil=>cases hm
   |cons x r ih2=>simp only[treeL];rcases List.mem_cons.1 hm with rfl|hm;simp[AV.tree];simp[ih2 hm]
  rw[nH];simp[AV.tree,hg,gP,nH,ht,hms]
def Out(h:Hp)(v:AV)(es:List Int):Prop:=∃k,Own h k 1 false v (es.map aI)/\65536<=k/\k % 65536=5
theorem El.ints(l:List Int):∀x∈l.map aI,El 1 false x:=by intro x hx;simp only[List.mem_map]at hx;obtain⟨y,_,rfl⟩:=hx;exact⟨rfl,rfl,rfl⟩
theorem aA.szL_append:∀(a b:List aA),aA.szL (a++b)=aA.szL a+aA.szL b
 |[],b=>by simp[aA.szL]
 |x::r,b=>by simp[aA.szL,aA.szL_append r b];omega
def J1(h h':Hp)(kb:Nat):Prop:=∀q,q≠5->q % 65536≠5->q<kb->h'.get q=h.get q
def C3(eo:Nat)(h:Hp)(kb:Nat)(es:List Int)(r:AV)(h':Hp):Prop:=r = .tup []/\(∃v',h'.get 5=some (eo,.blk [v'] 1 false true false)/\Out h' v' es)/\J1 h h' kb
theorem Out.put{h:Hp}{v:AV}{es:List Int}(o:Out h v es){q e:Nat}{ob:Ob}(hq:q<65536\/q % 65536≠5):Out (h.put q e ob) v es:=by obtain⟨k,o,h1,h2⟩:=o;refine⟨k,o.mono ?_,h1,h2⟩;rw[aF,if_neg (by intro h;subst h;omega)]
theorem Own.one{h:Hp}{k0 esz:Nat}{ag:Bool}{v:AV}{es:List AV}(o:Own h k0 esz ag v es):v.fits 1 false=true/\v.one=true/\v.cells=[v]:=by
 rcases o with ⟨rfl,nl,cl,rfl,hc⟩|⟨e,cs,rfl,hg,hu⟩
 exact⟨rfl,rfl,rfl⟩;exact⟨rfl,rfl,rfl⟩
theorem AE(p:aA)(hks:∀q∈p.kids,q.ok)(hk:p.kids.length<=big)(kb eo ew:Nat)(h:Hp)(hkb:65536<=kb)(hkb2:kb % 65536=0)(es:List Int)(hsz:es.length+aA.szL p.kids<=big)
  (ih:∀q∈p.kids,q.ok->∀(kb:Nat)(h:Hp)(v:AV)(es:List Int)(eo ew:Nat),65536<=kb->kb % 65536=0->es.length+q.sz<=big ->
   h.get 5=some (eo,.blk [v] 1 false true false)->h.get 9=some (ew,.blk [.fn 74 [.pt 5 eo 0,.pt 9 ew 0]] 1 false true false)->Out h v es ->
   iP pg 74 [q.av,.pt 5 eo 0,.pt 9 ew 0] kb h (C3 eo h kb (es++cO q)))
  (v:AV) (hp:Hp) (h5:hp.get 5=some (eo,.blk [v] 1 false true false)) (h9:hp.get 9=some (ew,.blk [.fn 74 [.pt 5 eo 0,.pt 9 ew 0]] 1 false true false)) (ho:Out hp v es) (hkeep:J1 h hp kb) (env:List AV)
  (henv:clear B5 env=wY (.pt 9 ew 0) (.sl p.knl (p.kids.map aA.av) p.kcl) (.int .i64 p.kids.length) (.int .i64 0)) :
  XX pg kb (.loop wX B5) ⟨env,hp⟩ (jS 0 (DU [] (C3 eo h kb (es++fA p.kids)))) ⟨⟩:=by
 refine bJ p.kids (λd r env hp=>env=wY (.pt 9 ew 0) (.sl p.knl (p.kids.map aA.av) p.kcl) (.int .i64 p.kids.length) (.int .i64 d.length) /\
  ∃v,hp.get 5=some (eo,.blk [v] 1 false true false)/\hp.get 9=some (ew,.blk [.fn 74 [.pt 5 eo 0,.pt 9 ew 0]] 1 false true false)/\Out hp v (es++fA d)/\J1 h hp kb) ?_ ?_ ?_
 exact⟨henv,v,h5,h9,by simpa[fA] using ho,hkeep⟩;rintro env hp ⟨rfl,v,h5,h9,ho,hkeep⟩;simp only[wX,wY,go_sem,seval];exact⟨rfl,⟨v,h5,ho⟩,hkeep⟩;rintro d x r env hp hes ⟨rfl,v,h5,h9,ho,hkeep⟩;have hxm:x∈p.kids:=by rw[hes];simp
 have hb2:(d++x::r).length<=big:=by rw[<-hes];exact hk
 have hsd:aA.szL p.kids=aA.szL d+x.sz+aA.szL r:=by rw[hes,aA.szL_append];simp[aA.szL];omega
 have hrd:=mV d;have n1:(kb+9=5)=False:=eq_false (by omega);have n2:(kb+9=9)=False:=eq_false (by omega);have n3:(kb+5=9)=False:=eq_false (by omega);rw[hes];simp only[wX,wY,n1,n2,n3,h9,go_sem,seval];generalize hO1:Ob.blk [AV.str [],AV.int IntKind.i64 0,AV.int IntKind.i64 0,AV.str [],AV.sl true [] true,AV.bool false,AV.int IntKind.i64 0,AV.sl true [] true,AV.sl true [] true] 9 true true false=O1;have g5:∀o1 o2,((hp.put (kb+9) (hp.next (kb+9)) o1).put (kb+9) (hp.next (kb+9)) o2).get 5=hp.get 5:=by intro o1 o2;rw[aF,if_neg (by omega),aF,if_neg (by omega)]
 have g9:∀o1 o2,((hp.put (kb+9) (hp.next (kb+9)) o1).put (kb+9) (hp.next (kb+9)) o2).get 9=hp.get 9:=by intro o1 o2;rw[aF,if_neg (by omega),aF,if_neg (by omega)]
 refine pH (P:=C3 eo ((hp.put (kb+9) (hp.next (kb+9)) O1).put (kb+9) (hp.next (kb+9)) (Ob.blk
   [AV.str x.op.bs,AV.int IntKind.i64 x.num,AV.int IntKind.i64 x.value,AV.str x.name.bs,
    AV.sl x.at_.nl (List.map Lin.av x.at_.es) x.at_.cl,AV.bool x.dyn,AV.int IntKind.i64 x.check,
    AV.sl x.fn.nl (List.map aE.av x.fn.es) x.fn.cl,AV.sl x.knl (List.map aA.av x.kids) x.kcl]
   9 true true false)) ((kb+13+1)*65536) (es++fA d++cO x)) (.inr ?_) (B:=(kb+13+1)*65536) rfl ?_ ?_
 refine l8 (x:=.pt 9 ew 0) (by simp) (mS (f:=74) (cs:=[.pt 5 eo 0,.pt 9 ew 0]) (ti:=true) (fz:=false) ?_ (by simp) _);rw[g9];exact h9;rw[<-aA.avc];refine ih x hxm (hks x hxm) _ _ v _ eo ew (by omega) (by omega) (by simp;omega) (by rw[g5];exact h5) (by rw[g9];exact h9) ?_;exact(ho.put (.inr (by omega))).put (.inr (by omega));rintro r' h' ⟨rfl,⟨v2,q5,q6⟩,q7⟩;have q9:h'.get 9=hp.get 9:=by rw[q7 9 (by omega) (by omega) (by omega),g9]
 simp only[bL hb2,go_sem,seval];refine⟨rfl,v2,q5,by rw[q9];exact h9,by rw[pN,<-List.append_assoc];exact q6,?_⟩;intro q c1 c2 c3;rw[q7 q c1 c2 (by omega),aF,if_neg (by omega),aF,if_neg (by omega)];exact hkeep q c1 c2 c3
theorem c74(hf:pg.fs 74=some FM):∀p:aA,p.ok->∀(kb:Nat)(h:Hp)(v:AV)(es:List Int)(eo ew:Nat),65536<=kb->kb % 65536=0->es.length+p.sz<=big ->
  h.get 5=some (eo,.blk [v] 1 false true false)->h.get 9=some (ew,.blk [.fn 74 [.pt 5 eo 0,.pt 9 ew 0]] 1 false true false)->Out h v es ->
  iP pg 74 [p.av,.pt 5 eo 0,.pt 9 ew 0] kb h (C3 eo h kb (es++cO p)):=by
 refine aA.ind' λp ih hp kb h v es eo ew hkb hkb2 hsz h5 h9 hout=>?_;obtain⟨hk,hks⟩:=(aA.ok_iff p).1 hp;have hps:=aA.sz_eq p;refine iP.ofX hf ?_;rw[EP,<-List.append_assoc];unfold FM;have k1:(kb+1=5)=False:=eq_false (by omega);have k2:(kb+1=9)=False:=eq_false (by omega);have k3:(kb+5=5)=False:=eq_false (by omega);simp only[h5,k1,go_sem,seval];cases ho:decide (p.op.bs=[114,101,97,100]);refine Wk ?_;refine AE p hks hk kb eo ew h hkb hkb2 _ (by simp;omega) ih v _ (by rw[aF,if_neg (by omega)];exact h5) (by rw[aF,if_neg (by omega)];exact h9) ?_ ?_ _ rfl;simpa using hout.put (.inr (by omega));intro q q1 q2 q3;rw[aF,if_neg (by omega)]
 ·simp only[h5,k1,go_sem,seval];obtain⟨k,ho1,hk1,hk2⟩:=hout;refine OT (k1:=k) (ho1.mono (by rw[aF,if_neg (by omega)])) (El.ints es) (El.ints [p.value]) (by simp) (by simp[big]at *;omega) (by omega) ?_;intro v' rd pa ho2 hkeep;have m1:(5=kb+5)=False:=eq_false (by omega);have m2:(5=k)=False:=eq_false (by omega);have m3:(9=kb+5)=False:=eq_false (by omega);have m4:(9=k)=False:=eq_false (by omega);have m5:(kb=4)=False:=eq_false (by omega);have m6:(kb+1=k)=False:=eq_false (by omega);have m7:(kb+1=kb+5)=False:=eq_false (by omega);have hg5:=(hkeep 5 (by omega) (by omega)).trans ((by rw[aF,if_neg (by omega)]:_=h.get 5).trans h5);have hg9:=(hkeep 9 (by omega) (by omega)).trans ((by rw[aF,if_neg (by omega)]:_=h.get 9).trans h9);obtain⟨f1,f2,f3⟩:=ho2.one;simp only[hg5,k1,k3,f1,f2,f3,hkeep,m1,m2,m5,m6,m7,Nat.zero_add,go_sem,seval];refine AE p hks hk kb eo ew h hkb hkb2 (es++[p.value]) (by rw[d6,List.length_singleton];omega) ih v' _ ?_ ?_ ?_ ?_ _ ?_
  rotate_right
  rfl;rw[aF,if_pos rfl];rw[aF,if_neg (by omega)];exact hg9;refine Out.put ⟨kb+5,by rw[List.map_append];exact ho2,by omega,by omega⟩ (.inl (by omega));intro q q1 q2 q3;rw[aF,if_neg (Ne.symm q1),hkeep q (by omega) (by intro h;subst h;omega),aF,if_neg (by omega)]
end
end
section
def qE(x:Int):List Int->List Int
 |[]=>[x]
 |y::r=>if x<=y then x::y::r else y::qE x r
def gU:List Int->List Int
 |[]=>[]
 |x::r=>qE x (gU r)
def bW:List Int->List Int
 |[]=>[]
 |[x]=>[x]
 |x::y::r=>if x=y then bW (y::r) else x::bW (y::r)
theorem yT(x:Int):∀l,(qE x l).length=l.length+1
 |[]=>rfl
 |y::r=>by simp only[qE];split<;>simp[yT x r]
theorem j9:∀l,(gU l).length=l.length
 |[]=>rfl
 |x::r=>by simp[gU,yT,j9 r]
theorem o8:∀l:List Int,(bW l).length<=l.length
 |[]=>by simp[bW]
 |[x]=>by simp[bW]
 |x::y::r=>by have:=o8 (y::r);simp only[bW];split<;>simp at * <;> omega
theorem rV(x a:Int):∀l,a∈qE x l↔a=x\/a∈l
 |[]=>by simp[qE]
 |y::r=>by simp only[qE];split;simp;simp[rV x a r];constructor<;>intro h<;>rcases h with h|h|h<;>simp[h]
theorem uM(a:Int):∀l,a∈gU l↔a∈l
 |[]=>by simp[gU]
 |x::r=>by simp[gU,rV,uM a r]
theorem oN(a:Int):∀l:List Int,a∈bW l↔a∈l
 |[]=>by simp[bW]
 |[x]=>by simp[bW]
 |x::y::r=>by have:=oN a (y::r);simp only[bW];split;rename_i h;subst h;simp[this];simp[this]
structure WB(pg:Pg):Prop where
 sort:∀(kb:Nat)(h:Hp)(k e:Nat)(l:List Int),h.get k=some (e,.blk (l.map aI) 1 false false false)->l.length<=big->nE pg 75 [.rf k e 0 l.length l.length] kb h (.tup []) (h.put k e (.blk ((gU l).map aI) 1 false false false))
 sortN:∀(kb:Nat)(h:Hp)(nl cl:Bool),nE pg 75 [.sl nl [] cl] kb h (.tup []) h
 comp:∀(kb:Nat)(h:Hp)(k e:Nat)(l:List Int),h.get k=some (e,.blk (l.map aI) 1 false false false)->l.length<=big ->
  ∃tl,nE pg 76 [.rf k e 0 l.length l.length] kb h (.rf k e 0 (bW l).length l.length) (h.put k e (.blk ((bW l).map aI++tl) 1 false false false))
 compN:∀(kb:Nat)(h:Hp)(nl cl:Bool),nE pg 76 [.sl nl [] cl] kb h (.sl nl [] cl) h
def iG(p:aA):List Int:=bW (gU (cO p))
theorem fD:∀(l:List Int),aW 1 false (l.map aI)=some (l.map aI)
 |[]=>rfl
 |x::r=>by have ih:=fD r;rw[List.map_cons,aW,ih];rfl
section
variable{pg:Pg}
theorem iP.mono{f:Nat}{vs:List AV}{kb:Nat}{h:Hp}{P P':AV->Hp->Prop}(hr:iP pg f vs kb h P)(hP:∀r h',P r h'->P' r h'):iP pg f vs kb h P':=by obtain⟨r,h',a,b⟩:=hr;exact⟨r,h',a,hP r h' b⟩
theorem c48(S:WB pg)(hf:pg.fs 48=some I4)(h74:pg.fs 74=some FM)(p:aA)(hp:p.ok)(hsz:p.sz<=big):dY pg 48 [p.av] (mF 1 false ((iG p).map aI)):=by
 refine dY.ofX hf ?_;unfold I4;refine Wk ?_;refine pH (P:=λr h'=>r = .tup []/\∃v',h'.get 5=some (0,.blk [v'] 1 false true false)/\Out h' v' ([]++cO p)) (.inr ?_) (B:=(0+13+1)*65536) rfl ?_ ?_;refine l8 (x:=.pt 9 0 0) (by simp) (mS (f:=74) (cs:=[.pt 5 0 0,.pt 9 0 0]) (ti:=true) (fz:=false) ?_ (by simp) _);simp only[go_sem,seval];rw[<-aA.avc];refine iP.mono (c74 h74 p hp ((0+13+1)*65536) _ (.sl true [] true) [] 0 0 (by omega) (by omega) (by simpa using hsz) ?_ ?_ ?_) ?_;simp only[go_sem,seval];simp only[go_sem,seval];exact⟨65536+5,Own.nil _ _ _ _ _ _ rfl,by omega,by omega⟩;rintro r h' ⟨q1,q2,_⟩;exact⟨q1,q2.elim λv' hv=>⟨v',hv.1,hv.2⟩⟩;rintro r h' ⟨rfl,v,h5,k,ho,hk1,hk2⟩;rw[List.nil_append]at ho;have hlen:(cO p).length<=big:=Nat.le_trans (rI p) hsz;simp only[h5,go_sem,seval];rcases ho with ⟨hnil,nl,cl,rfl,hc⟩|⟨e,cs,rfl,hg,hu⟩
 refine lY (.inl rfl) rfl (S.sortN _ _ nl cl) ?_;simp only[h5,go_sem,seval];refine lY (.inl rfl) rfl (S.compN _ _ nl cl) (Wk ?_);have hn:cO p=[]:=by simpa using hnil
 exact .inl ⟨by simp[iG,hn,gU,bW],nl,cl,rfl,hc⟩;rw[fD]at hu;cases hu;have e1:((cO p).map aI).length=(cO p).length:=by simp
 rw[e1];refine lY (.inl rfl) rfl (S.sort _ h' k e (cO p) hg hlen) ?_;have n5:(k=5)=False:=eq_false (by omega);have n5':(5=k)=False:=eq_false (by omega);simp only[h5,n5,go_sem,seval];have hc:=S.comp (gJ 0 21 [.rf k e 0 (cO p).length (cO p).length]) (h'.put k e (.blk ((gU (cO p)).map aI) 1 false false false)) k e (gU (cO p)) (by rw[aF,if_pos rfl]) (by rw[j9];exact hlen);rw[j9]at hc;obtain⟨tl,hc⟩:=hc;refine lY (.inl rfl) rfl hc ?_;obtain⟨cs,q1,q2,q3,q4⟩:=cU (El.ints (iG p));rw[fD]at q1;cases q1;have hl:((iG p).map aI).length=(bW (gU (cO p))).length:=by simp[iG]
 have hq:=q4 tl;rw[hl]at hq;have hsn:∀h,bO (snap 64 h) ((iG p).map aI)=some ((iG p).map aI,[]):=λh=>fJ 63 h (sB _);simp only[conv,go_sem,seval];simp only[show List.map aI (bW (gU (cO p)))=List.map aI (iG p) from rfl,hq,depth,hsn];exact⟨_,by simp,.inr rfl⟩
end
end
section
def iC:Nat->Nat->List UInt8
 |0,_=>[]
 |f+1,u=>if u<10 then [UInt8.ofNat (48+u)] else iC f (u / 10)++[UInt8.ofNat (48+u % 10)]
def fP(acc:Nat)(l:List UInt8):Nat:=l.foldl (λa c=>a*10+(c.toNat-48)) acc
theorem sP:∀(l:List UInt8)(acc:Nat),acc<=fP acc l
 |[],acc=>Nat.le_refl _
 |c::r,acc=>by have:=sP r (acc*10+(c.toNat-48));simp only[fP,List.foldl_cons]at this ⊢;omega
theorem zD:∀(l:List UInt8)(acc:Nat),l.all bQ=true->fP acc l<(acc+1)*10 ^ l.length
 |[],acc,_=>by simp[fP]
 |c::r,acc,h=>by simp only[List.all_cons,aD,bQ,cL]at h;have:=zD r (acc*10+(c.toNat-48)) (by simpa[bQ] using h.2);simp only[fP,List.foldl_cons,List.length_cons,Nat.pow_succ]at this ⊢;refine Nat.lt_of_lt_of_le this ?_;rw[Nat.mul_comm (10 ^ r.length) 10,<-Nat.mul_assoc];exact Nat.mul_le_mul_right _ (by omega)
theorem BR(l:List UInt8)(c:UInt8)(acc:Nat):fP acc (l++[c])=fP acc l*10+(c.toNat-48):=by simp[fP]
theorem nK:∀(l:List UInt8)(acc:Nat),l.all bQ=true->fP acc l<1844674407370955162->Lib.parseUint10 acc l = .ok (fP acc l)
 |[],acc,_,_=>rfl
 |c::r,acc,h,hb=>by simp only[List.all_cons,aD]at h;have hd:=h.1;simp only[bQ,aD,cL]at hd;have h1:=sP r (acc*10+(c.toNat-48));have e:fP acc (c::r)=fP (acc*10+(c.toNat-48)) r:=rfl;rw[e]at hb ⊢;rw[Lib.parseUint10,if_pos hd,if_neg (by omega),if_neg (by omega)];exact nK r _ h.2 hb
theorem vB{l:List UInt8}(h:l.all bQ=true)(h0:l≠[])(hh:l.head? ≠ some 48):0<fP 0 l:=by
 cases l with
 |nil=>exact absurd rfl h0
 |cons c r=>simp only[List.all_cons,aD,bQ,cL]at h;have h1:=sP r (0*10+(c.toNat-48));have h2:c.toNat≠48:=λe=>hh (by simp;exact UInt8.toNat_inj.1 e);have e:fP 0 (c::r)=fP (0*10+(c.toNat-48)) r:=rfl;rw[e];omega
theorem zC:∀(n f:Nat)(l:List UInt8),l.length=n->n<=f->l.all bQ=true->l≠[]->l.head? ≠ some 48->iC f (fP 0 l)=l
 |0,f,l,hn,_,_,h0,_=>absurd (eG hn) h0
 |n+1,f,l,hn,hf,hd,h0,hh=>by
  obtain⟨f,rfl⟩:∃g,f=g+1:=⟨f-1,by omega⟩
  obtain⟨l',c,rfl⟩:∃l' c,l=l'++[c]:=by
   rcases vV l with h|⟨l',c,h⟩
   exact absurd h h0;exact⟨l',c,by simpa using h⟩
  simp only[List.all_append,List.all_cons,List.all_nil,Bool.and_true,aD]at hd;have hc:=hd.2;simp only[bQ,aD,cL]at hc;have hcc:UInt8.ofNat (48+(c.toNat-48))=c:=by rw[Nat.add_sub_cancel' hc.1];exact UInt8.ofNat_toNat
  rw[BR];by_cases hl:l'=[]
  subst hl;have:fP 0 []=0:=rfl;rw[this,iC,if_pos (by omega)];simp only[Nat.zero_mul,Nat.zero_add,List.nil_append];rw[hcc];have hh':l'.head? ≠ some 48:=by
   cases l' with
   |nil=>exact absurd rfl hl
   |cons x r=>simpa using hh
  have hp:=vB hd.1 hl hh';rw[iC,if_neg (by omega)];have e1:(fP 0 l'*10+(c.toNat-48)) / 10=fP 0 l':=by omega
  have e2:(fP 0 l'*10+(c.toNat-48)) % 10=c.toNat-48:=by omega
  rw[e1,e2,hcc,zC n f l' (by simpa using hn) (by omega) hd.1 hl hh']
theorem sO:∀(f u:Nat),0<u->u<10 ^ f->(iC f u).all bQ=true/\iC f u≠[]/\(iC f u).head? ≠ some 48
 |0,u,h,hu=>by simp at hu;omega
 |f+1,u,h,hu=>by
  have hof:∀n:Nat,n<10->(UInt8.ofNat (48+n)).toNat=48+n:=λn hn=>by simp;omega
  rw[iC];split;rename_i h1;refine⟨by simp[bQ,hof u h1];omega,by simp,?_⟩;intro he;simp only[List.head?_cons,aK]at he;have:=congrArg UInt8.toNat he;rw[hof u h1]at this;simp at this;omega;obtain⟨a,b,c⟩:=sO f (u / 10) (by omega) (by rw[Nat.pow_succ]at hu;omega);refine⟨?_,by simp,?_⟩;rw[List.all_append,a];simp[bQ,hof (u % 10) (by omega)];omega;cases hx:iC f (u / 10) with
  |nil=>exact absurd hx b
  |cons x r=>rw[hx]at c;simpa using c
def gA(t:List UInt8):Bool:=
 match Lib.atoiAll t with
 |.ok v=>decide (0<v)&&decide ((t.length:Int)+1<=10)&&decide (iC 20 v.toNat=t)
 |_=>false
theorem AG(t:List UInt8):gA t=(decide (2<=t.length+1)&&decide (t.length+1<=10) && !decide (t.head?=some 48)&&t.all bQ):=by
 cases hr:(decide (2<=t.length+1)&&decide (t.length+1<=10) && !decide (t.head?=some 48)&&t.all bQ);cases ha:gA t;rfl;exfalso;simp only[gA]at ha;split at ha;rename_i v hv;simp only[aD,cL]at ha;obtain⟨⟨h1,h2⟩,h3⟩:=ha;obtain⟨hb1,hb2⟩:v.toNat<10 ^ 20/\0<v.toNat:=by
  have hv2:v.toNat<18446744073709551616:=by
   cases t with
   |nil=>simp[Lib.atoiAll]at hv
   |cons c r=>
    simp only[Lib.atoiAll]at hv;split at hv;cases hv;cases hv;rename_i u hu;have:=Lib.parseMag_lt hu;split at hv;cases hv;split at hv;cases hv;injection hv with hv
    split at hv<;>omega
  exact⟨by omega,by omega⟩
 obtain⟨a,b,c⟩:=sO 20 v.toNat hb2 hb1;rw[h3]at a b c;have hlen:0<t.length:=List.length_pos_iff.2 b;simp[a,c]at hr;omega;cases ha;simp only[aD,gS,cL,oF]at hr;obtain⟨⟨⟨h1,h2⟩,h3⟩,h4⟩:=hr;have h0:t≠[]:=by rintro rfl;simp at h1
 have hlt:=zD t 0 h4;have hpow:(10:Nat) ^ t.length<=10 ^ 9:=Nat.pow_le_pow_right (by decide) (by omega);have hsm:fP 0 t<1844674407370955162:=by
  have:(10:Nat) ^ 9=1000000000:=by decide
  omega
 have hp:=nK t 0 h4 hsm;have hpos:=vB h4 h0 h3;have hv:Lib.atoiAll t = .ok ((fP 0 t:Nat):Int):=by
  cases t with
  |nil=>exact absurd rfl h0
  |cons c r=>
   have hc:bQ c=true:=by simp only[List.all_cons,aD]at h4;exact h4.1
   simp only[bQ,aD,cL]at hc;simp only[Lib.atoiAll];rw[if_neg (by omega)];simp only[Lib.parseMag];rw[if_neg (by simp),hp];simp only;rw[if_neg (by omega),if_neg (by omega),if_neg (by omega)]
 have hd:=zC t.length 20 t rfl (by omega) h4 h0 h3;simp only[gA,hv,Int.toNat_natCast,hd,decide_true,Bool.and_true,aD,cL];omega
end
section
def lU(args:List AV)(_:Nat)(h:Hp):Option (AV×Hp):=
 match args with
 |[.str s]=>
  if s.length<=16777216 then
   match Lib.atoiAll s with
   |.ok v=>some (.tup [.int .i64 v,.nili],h)
   |.range=>some (.tup [.int .i64 (Lib.atoiSat s),.ifc .top],h)
   |_=>some (.tup [.int .i64 0,.ifc .top],h)
  else none
 |_=>none
def lT(args:List AV)(_:Nat)(h:Hp):Option (AV×Hp):=
 match args with
 |[.int .i64 n]=>if 0<=n/\n<=9223372036854775807 then some (.str (iC 20 n.toNat),h) else none
 |_=>none
def kQ:List AV->Option (List Int)
 |[]=>some []
 |.int .i64 n::r=>(kQ r).map (n :: ·)
 |_=>none
def oW(args:List AV)(_:Nat)(h:Hp):Option (AV×Hp):=
 match args with
 |[.sl _ [] _]=>some (.tup [],h)
 |[.rf k e off len _]=>
  match h.get k with
  |some (e',.blk cs 1 false ti false)=>
   if e'=e/\off+len<=cs.length/\len<=16777216 then
    match kQ ((cs.drop off).take len) with
    |some zs=>some (.tup [],h.put k e (.blk (cE cs off ((gU zs).map aI)) 1 false ti false))
    |none=>none
   else none
  |_=>none
 |_=>none
def oX(args:List AV)(_:Nat)(h:Hp):Option (AV×Hp):=
 match args with
 |[.sl nl [] cl]=>some (.sl nl [] cl,h)
 |[.rf k e off len cap]=>
  match h.get k with
  |some (e',.blk cs 1 false ti false)=>
   if e'=e/\off+len<=cs.length/\len<=16777216 then
    match kQ ((cs.drop off).take len) with
    |some zs=>some (.rf k e off (bW zs).length cap,h.put k e (.blk (cE cs off ((bW zs++List.replicate (zs.length-(bW zs).length) 0).map aI)) 1 false ti false))
    |none=>none
   else none
  |_=>none
 |_=>none
theorem mZ:∀l:List Int,kQ (l.map aI)=some l
 |[]=>rfl
 |x::r=>by simp[kQ,aI,mZ r]
structure Ora(pg:Pg):Prop where
 f92:pg.fs 92=none
 f93:pg.fs 93=none
 f75:pg.fs 75=none
 f76:pg.fs 76=none
 atoi:pg.ex 92=some lU
 itoa:pg.ex 93=some lT
 sort:pg.ex 75=some oW
 comp:pg.ex 76=some oX
structure aBE(pg:Pg):Prop where
 f92:pg.fs 92=none
 f93:pg.fs 93=none
 atoi:pg.ex 92=some lU
 itoa:pg.ex 93=some lT
section
variable{pg:Pg}
theorem Ora.n(A:Ora pg):aBE pg:=⟨A.f92,A.f93,A.atoi,A.itoa⟩
theorem qI{f:Nat}{g:List AV->Nat->Hp->Option (AV×Hp)}(hf:pg.fs f=none)(hx:pg.ex f=some g){vs:List AV}{kb:Nat}{h h':Hp}{r:AV}(hg:g vs kb h=some (r,h')):nE pg f vs kb h r h':=
 ⟨1,by simp only[aP,hf,hx,hg]⟩
theorem rF{f:Nat}{g:List AV->Nat->Hp->Option (AV×Hp)}(hf:pg.fs f=none)(hx:pg.ex f=some g){vs:List AV}{r:AV}(hg:g vs 0 []=some (r,[]))(hr:r.tree=true):Ret pg f vs r:=
 ⟨1,by simp only[bB,aP,hf,hx,hg,o7 hr]⟩
theorem JM(A:Ora pg):WB pg where
 sort:=by
  intro kb h k e l hg hb;refine qI A.f75 A.sort ?_;simp only[big]at hb;simp only[oW,hg,d7,Nat.zero_add,List.drop_zero];rw[if_pos ⟨trivial,Nat.le_refl _,hb⟩,List.take_of_length_le (by simp),mZ];have hd:List.drop l.length (l.map aI)=[]:=by rw[List.drop_eq_nil_iff];simp
  simp[cE,j9,hd]
 sortN:=by intro kb h nl cl;exact qI A.f75 A.sort rfl
 comp:=by
  intro kb h k e l hg hb;refine⟨(List.replicate (l.length-(bW l).length) 0).map aI,qI A.f76 A.comp ?_⟩;simp only[big]at hb;have hc:=o8 l;simp only[oX,hg,d7,Nat.zero_add,List.drop_zero];rw[if_pos ⟨trivial,Nat.le_refl _,hb⟩,List.take_of_length_le (by simp),mZ];simp only[cE,List.take_zero,List.nil_append,Nat.zero_add];have hd:List.drop ((bW l++List.replicate (l.length-(bW l).length) 0).map aI).length (l.map aI)=[]:=by rw[List.drop_eq_nil_iff];simp;omega
  rw[hd,List.append_nil,List.map_append]
 compN:=by intro kb h nl cl;exact qI A.f76 A.comp rfl
def nm:Bool->List UInt8->Bool
 |_,[]=>true
 | fst,c::r=>(cT c||(!fst&&bQ c))&&nm false r
theorem G3:∀r,nm false r=r.all (λx=>cT x||bQ x)
 |[]=>rfl
 |c::r=>by simp[nm,G3 r]
theorem yM{s:List UInt8}(h:s.head? ≠ some 95):fV s=(nm true s&&(!decide (s=[])&&decide ((s.length:Int)<=30))):=by
 cases s with
 |nil=>rfl
 |cons c t=>
  have hc:c≠95:=λe=>h (by simp[e]);simp only[fV,if_neg hc,nm,G3];have:decide ((c::t).length<=30)=decide (((c::t).length:Int)<=30):=by rw[cC];omega
  rw[this];cases cT c<;>cases (t.all λx=>cT x||bQ x)<;>cases decide (((c::t).length:Int)<=30)<;>rfl
theorem yL(t:List UInt8):fV (95::t)=gA t:=by
 rw[AG];simp only[fV,if_true,List.length_cons];cases h:decide (t.length+1<=10);simp;have:t.length+1<=30:=by simp at h;omega
 simp[this]
set_option maxHeartbeats 8000000 in
theorem aHJ(A:aBE pg)(hf:pg.fs 57=some FN)(h91:pg.fs 91=some BZ)(h126:pg.fs 126=some pZ)(s:Str):Ret pg 57 [.str s.bs] (.bool (fV s.bs)):=by
 obtain⟨s,hb⟩:=s;have a91:=c91 h91 h126 s [95];have hb':s.length<=16777216:=by simpa[big] using hb
 refine Ret.ofX hf ?_;unfold FN;refine Wk ?_;refine aC a91 ?_;cases hu:(decide ([(95:UInt8)].length<=s.length)&&decide (s.take [(95:UInt8)].length=[95]))
 case true=>
  obtain⟨t,rfl⟩:∃t,s=95::t:=by
   cases s with
   |nil=>simp at hu
   |cons c t=>simp at hu;exact⟨t,by rw[hu]⟩
  have hlen:(((95:UInt8)::t).length:Int)=(t.length:Int)+1:=by simp
  have hlen2:((t.length+1:Nat):Int)=(t.length:Int)+1:=by simp
  have hs1:∀h,sG true false [.str (95::t),.int .i64 1]=some (.str t,.pat [] [])/\h=h:=fun(h:Hp)=>by refine⟨?_,rfl⟩;simp only[sG,fF,Bool.false_eq_true,if_false,if_true,Option.getD_none,Option.getD_some];rw[if_pos ⟨by omega,by simp;omega,by omega⟩];simp[val]
  have hs2:=(hs1 []).1;have hn:fV (95::t)=gA t:=yL t;have htl:t.length<=16777216:=by simp at hb';omega
  have hex:lU [.str t] 0 []=(match Lib.atoiAll t with|.ok v=>some (.tup [.int .i64 v,.nili],[])|.range=>some (.tup [.int .i64 (Lib.atoiSat t),.ifc .top],[])|_=>some (.tup [.int .i64 0,.ifc .top],[])):=by simp only[lU];rw[if_pos htl]
  rw[hn];simp only[↓hs2,go_sem,seval];cases hat:Lib.atoiAll t
  case range=>rw[hat]at hex;refine aC (rF A.f92 A.atoi hex (by simp[AV.tree,treeL])) (Wk ?_);refine bP ?_;simp only[gA,hat]
  case ok v=>
   rw[hat]at hex;refine aC (rF A.f92 A.atoi hex (by simp[AV.tree,treeL])) ?_;have hres:gA t=(decide (0<v)&&decide ((t.length:Int)+1<=10)&&decide (iC 20 v.toNat=t)):=by simp only[gA,hat]
   rw[hres];cases b1:decide (0<v)
   case false=>
    simp only[b1,go_sem,seval]
    first|(refine bP ?_;rfl)|kernel_rfl
   have hv0:0<v:=by simpa using b1
   have hvb:=Lib.atoiAll_bounds hat;have hit:Ret pg 93 [.int .i64 v] (.str (iC 20 v.toNat)):=by refine rF A.f93 A.itoa ?_ rfl;simp only[lT];rw[if_pos (by omega)]
   cases b2:decide ((t.length:Int)+1<=10)
   case false=>
    simp only[b1,hlen,hlen2,b2,go_sem,seval]
    first|(refine bP ?_;rfl)|kernel_rfl
   simp only[b1,hlen,hlen2,b2,go_sem,seval];refine aC hit ?_;simp only[↓hs2,go_sem,seval]
   first|(refine bP ?_;rfl)|kernel_rfl
  rw[hat]at hex;refine aC (rF A.f92 A.atoi hex (by simp[AV.tree,treeL])) (Wk ?_);refine bP ?_;simp only[gA,hat]
 case false=>
  have hh:s.head? ≠ some 95:=by
   intro he;cases s with
   |nil=>simp at he
   |cons c t=>simp at he;subst he;simp at hu
  rw[yM hh];refine Wk ?_;refine cN s (λd e=>cG e (some 36) (.int .i64 d.length)) (λd r hp=>nm true s=nm d.isEmpty r) rfl ?_ ?_ ?_;rfl;rintro hp hI;have:nm true s=true:=by rw[hI];simp[nm]
  rw[this];cases c1:decide (s=[]);simp only[w6,wZ,c1,go_sem,seval];simp only[w6,wZ,c1,go_sem,seval]
  ·rintro d c r hp hes hI;rw[hes]at hb hI;have hw:=bL hb;rw[hes];have hnm:nm true (d++c::r)=((cT c||(!d.isEmpty&&bQ c))&&nm false r):=hI;have hde:decide ((d.length:Int)=0)=d.isEmpty:=by
    cases d with
    |nil=>simp
    |cons x r=>simp;omega
   have happ:(d++[c]).isEmpty=false:=by simp
   have hlet:cT c=(!(decide ((c.toNat:Int)<97)) && !(decide ((122:Int)<c.toNat))):=by simp only[cT];by_cases h1:97<=c.toNat<;>by_cases h2:c.toNat<=122<;>simp[h1,h2]<;>omega
   have hdig:bQ c=(!(decide ((c.toNat:Int)<48)) && !(decide ((57:Int)<c.toNat))):=by simp only[bQ];by_cases h1:48<=c.toNat<;>by_cases h2:c.toNat<=57<;>simp[h1,h2]<;>omega
   rw[hlet,hdig]at hnm;clear hlet hdig hI hes a91 hu hh hb';cases e1:decide ((c.toNat:Int)<97)<;>cases e2:decide ((122:Int)<c.toNat)<;>cases e3:d.isEmpty<;>cases e4:decide ((c.toNat:Int)<48)<;>cases e5:decide ((57:Int)<c.toNat)
   all_goals (rw[e1,e2,e3,e4,e5]at hnm)
   all_goals (rw[e3]at hde)
   all_goals (simp only[Bool.not_true,Bool.not_false,Bool.and_true,Bool.and_false,Bool.or_true,Bool.or_false,Bool.true_and,Bool.false_and]at hnm)
   all_goals (rw[hnm])
   all_goals (simp only[w6,wZ,e1,e2,hde,e4,e5,hw,happ,go_sem,seval])
theorem c57(A:Ora pg)(hf:pg.fs 57=some FN)(h91:pg.fs 91=some BZ)(h126:pg.fs 126=some pZ)(s:Str):Ret pg 57 [.str s.bs] (.bool (fV s.bs)):=aHJ A.n hf h91 h126 s
end
end
section
open Go.Sort
theorem uW(x:Int):∀l,(qE x l).Perm (x::l)
 |[]=>List.Perm.refl _
 |y::r=>by simp only[qE];split;exact List.Perm.refl _;exact((uW x r).cons y).trans (List.Perm.swap x y r)
theorem rD:∀l,(gU l).Perm l
 |[]=>List.Perm.refl _
 |x::r=>(uW x _).trans ((rD r).cons x)
theorem pU(x:Int):∀l:List Int,l.Pairwise (· <= ·)->(qE x l).Pairwise (· <= ·)
 |[],_=>by simp[qE]
 |y::r,h=>by simp only[qE];rw[List.pairwise_cons]at h;split;rename_i hxy;rw[List.pairwise_cons];refine⟨?_,List.pairwise_cons.2 h⟩;intro a ha;rcases List.mem_cons.1 ha with rfl|ha;exact hxy;exact Int.le_trans hxy (h.1 a ha);rename_i hxy;rw[List.pairwise_cons];refine⟨?_,pU x r h.2⟩;intro a ha;rcases (rV x a r).1 ha with rfl|ha;omega;exact h.1 a ha
theorem kI:∀l:List Int,(gU l).Pairwise (· <= ·)
 |[]=>List.Pairwise.nil
 |x::r=>pU x _ (kI r)
theorem mI:∀{a b:List Int},a.Perm b->a.Pairwise (· <= ·)->b.Pairwise (· <= ·)->a=b
 |[],b,h,_,_=>(List.Perm.nil_eq h)
 |x::r,[],h,_,_=>absurd h.symm.nil_eq (by simp)
 |x::r,y::s,h,ha,hb=>by
  rw[List.pairwise_cons]at ha hb;have h1:x<=y:=by have:y∈x::r:=h.symm.subset (by simp);rcases List.mem_cons.1 this with rfl|hy;exact Int.le_refl _;exact ha.1 y hy
  have h2:y<=x:=by have:x∈y::s:=h.subset (by simp);rcases List.mem_cons.1 this with rfl|hx;exact Int.le_refl _;exact hb.1 x hx
  obtain rfl:x=y:=by omega
  rw[mI (List.Perm.cons_inv h) ha.2 hb.2]
theorem GH(l:List Int):(l.mergeSort λx y=>decide (x<=y))=gU l:=by refine mI ((List.mergeSort_perm l _).trans (rD l).symm) ?_ (kI l);have:=List.pairwise_mergeSort (le:=λx y:Int=>decide (x<=y)) (by intro a b c h1 h2;simp at *;omega) (by intro a b;simp;omega) l;exact this.imp (by intro a b h;simpa using h)
theorem sR(x:Int):∀l:List Int,bW (l++[x])=bW l++(if l.getLast?=some x then [] else [x])
 |[]=>by simp[bW]
 |[a]=>by simp only[List.cons_append,List.nil_append,bW,List.getLast?_singleton,aK];split<;>simp[*]
 |a::b::r=>by have ih:=sR x (b::r);simp only[List.cons_append]at ih ⊢;simp only[bW,ih,List.getLast?_cons_cons];split<;>simp
theorem nT(zs:List Int):∀m,m<=zs.length->Lib.compactUpTo zs.toArray m=bW (zs.take m)
 |0,_=>by simp[Lib.compactUpTo,bW]
 |m+1,h=>by
  have ih:=nT zs m (by omega);have hm:zs.toArray[m]! = zs[m]'(by omega):=by rw[getElem!_pos _ _ (by simp;omega)];simp
  rw[List.take_succ_eq_append_getElem (by omega),sR,<-ih];simp only[Lib.compactUpTo,List.range_succ,List.filter_append,List.map_append];congr 1;cases m with
  |zero=>simp[Lib.keeps,hm];rw[cD (by omega)];rfl
  |succ k=>
   have hk:zs.toArray[k]! = zs[k]'(by omega):=by rw[getElem!_pos _ _ (by simp;omega)];simp
   have hl:(zs.take (k+1)).getLast?=some (zs[k]'(by omega)):=by rw[List.take_succ_eq_append_getElem (by omega)];exact List.getLast?_concat
   simp only[List.filter_cons,List.filter_nil,Lib.keeps,hm,hl];by_cases he:zs[k+1]'(by omega)=zs[k]'(by omega);simp[hk,he];have he':¬zs[k]'(by omega)=zs[k+1]'(by omega):=λh=>he h.symm;simp[hk,he,he',hm];rw[cD (by omega)];rfl
theorem BV(zs:List Int):Lib.compact zs=bW zs:=by rw[Lib.compact,nT zs zs.length (Nat.le_refl _),List.take_length]
theorem lV:∀(f u:Nat),u<10 ^ f->Lib.decDigits u=iC f u\/f=0
 |0,u,_ => .inr rfl
 |f+1,u,h=>by left;rw[iC,Lib.decDigits];by_cases h1:u<10;rw[dif_pos h1,if_pos h1];rw[dif_neg h1,if_neg h1];rcases lV f (u / 10) (by rw[Nat.pow_succ]at h;omega) with h2|h2;rw[h2];subst h2;simp at h;omega
theorem E1{n:Int}(h0:0<=n)(h1:n<=9223372036854775807):Lib.itoa n=iC 20 n.toNat:=by rw[Lib.itoa,if_neg (by omega)];rcases lV 20 n.toNat (by omega) with h|h;exact h;cases h
section
variable{P:Program}{num:Nm}{gl:Nat->Option AV}{gnum:Nat->Nat}{Fb:Nat->Prop}{B0:Nat}{ρ : Rho}{w w':World}{O:Nat->Prop}{h:Hp}
theorem gQ(H:HpR num Fb B0 ρ w O h)(hb:RowKit.Below w.heap.size w w'):Evo ρ w O ρ w' O/\HpR num Fb B0 ρ w' O h:=by
 have ev:Evo ρ w O ρ w' O:=⟨hb.os,hb.tape,hb.output,hb.size,λb h1 _=>hb.block b h1,λ_ _ h=>h,λ_ _ _ h=>h⟩
 exact⟨ev,H.same ev (λb hO=>hb.block b (H.own b hO).2)⟩
def oE (P:Program) (f:Nat):Prop:=∃fn,P.funcs[f]?=some fn/\fn.body.isSome=true/\fn.name ≠ "runtime.NumGoroutine"
theorem kH{R:AV->Value->Prop}{x:AV}{vs:List Value}(h:aH R [x] vs):∃c,vs=[c]/\R x c:=by
 cases h with
 |cons h1 h2=>cases h2;exact⟨_,rfl,h1⟩
theorem YA(hfn:oE P (num 93))(g:Nat)(hg:gl g=some (.agg (Lib.pow10Tab.map λn => .int .u64 n)))
  (hc:∀(n:Int),0<=n->n<=9223372036854775807->∀w:World,(∃T fr,w.heap[gnum g]?=some (.cells (Lib.pow10Tab.map λz=>Value.int .u64 z).toArray T fr)) ->
   Calls P (num 93) #[.int .i64 n] w λe w'=>e = .returned (.string ⟨(Lib.itoa n).toArray⟩)/\RowKit.Below w.heap.size w w') :
  cW P num gl gnum ⟨λf' avs kb h=>if f'=93 then lT avs kb h else none,λ_ _ _ _=>none⟩:=by
 intro f avs kb h r h' hr;dsimp only at hr;split at hr
 case isFalse=>cases hr
 rename_i hf;subst hf;refine⟨hfn,?_⟩;intro Fb B0 ρ O w vs H hG hv;unfold lT at hr;split at hr
 case h_2=>cases hr
 rename_i n;split at hr
 case isFalse=>cases hr
 rename_i hn;cases hr;obtain⟨c,rfl,hrv⟩:=kH hv;cases hrv
 have htab:∃T fr,w.heap[gnum g]?=some (.cells (Lib.pow10Tab.map λz=>Value.int .u64 z).toArray T fr):=by
  obtain⟨⟨_,c,T,fr,h1,h2⟩,hp⟩:=hG g _ hg;refine⟨T,fr,?_⟩;rw[h1];have hsz:c.size=Lib.pow10Tab.length:=by rw[h2];simp[AV.cells]
  have hce:c=(Lib.pow10Tab.map λz=>Value.int .u64 z).toArray:=by
   apply Array.ext;simp[hsz];intro i hi1 hi2;obtain⟨b,off,m,hx,hF,hb,hm,hr⟩:=hp.of_fp;cases hx;have hil:i<Lib.pow10Tab.length:=by omega
   have h3:=hm i (by simp only[AV.cells,d7];exact hil);have h4:=hr i (.int .u64 (Lib.pow10Tab[i]'hil)) (by simp only[AV.cells,List.getElem?_map,cD hil];rfl);rw[Nat.zero_add]at h3;simp only[World.cell?,h1,Option.isSome_none,Bool.false_eq_true,if_false,Array.getElem?_eq_getElem hi1,aK]at h3;rw[<-h3]at h4;have h5:=h4.of_int;rw[h5];simp
  rw[hce]
 refine(hc n hn.1 hn.2 w htab).mono ?_;rintro e w' ⟨rfl,hb⟩;obtain⟨ev,H'⟩:=gQ H hb;refine⟨_,ρ,O,rfl,ev,H',?_⟩;rw[E1 hn.1 hn.2];exact .str _
theorem YU(hfn:oE P (num 92))(g1 g2:Nat)(hg1:gl g1=some (.ifc .top))(hg2:gl g2=some (.ifc .top))
  (hok:∀(s:List UInt8),s.length<=16777216->∀v,Lib.atoiAll s = .ok v->∀w:World,Calls P (num 92) #[.string ⟨s.toArray⟩] w λe w'=>e = .returned (.tuple #[.int .i64 v,.nilIface])/\RowKit.Below w.heap.size w w')
  (hsy:∀(s:List UInt8),s.length<=16777216->(∀v,Lib.atoiAll s ≠ .ok v)->Lib.atoiAll s ≠ .range->∀(w:World)(te:TypeId)(pe:Value),w.cell? ⟨gnum g1,0,none⟩=some (.iface te pe) ->
   Calls P (num 92) #[.string ⟨s.toArray⟩] w λe w'=>∃t p,e = .returned (.tuple #[.int .i64 0,.iface t p])/\RowKit.Below w.heap.size w w')
  (hra:∀(s:List UInt8),s.length<=16777216->Lib.atoiAll s = .range->∀(w:World)(te:TypeId)(pe:Value),w.cell? ⟨gnum g2,0,none⟩=some (.iface te pe) ->
   Calls P (num 92) #[.string ⟨s.toArray⟩] w λe w'=>∃t p,e = .returned (.tuple #[.int .i64 (Lib.atoiSat s),.iface t p])/\RowKit.Below w.heap.size w w') :
  cW P num gl gnum ⟨λf' avs kb h=>if f'=92 then lU avs kb h else none,λ_ _ _ _=>none⟩:=by
 intro f avs kb h r h' hr;dsimp only at hr;split at hr
 case isFalse=>cases hr
 rename_i hf;subst hf;refine⟨hfn,?_⟩;intro Fb B0 ρ O w vs H hG hv;have hcell:∀g,gl g=some (.ifc .top)->∃te pe,w.cell? ⟨gnum g,0,none⟩=some (.iface te pe):=by
  intro g hg;obtain⟨_,hp⟩:=hG g _ hg;cases hp with
  |fp _ _ _ c hF hb hm hr=>have h1:=hm 0 (by simp[AV.cells]);have h2:=hr 0 (.ifc .top) (by simp[AV.cells]);simp only[Nat.add_zero]at h1;rw[h1];generalize c 0=ci at h2 ⊢;cases h2;exact⟨_,_,rfl⟩
 unfold lU at hr;split at hr
 case h_2=>cases hr
 rename_i s;split at hr
 case isFalse=>cases hr
 rename_i hs;obtain⟨c,rfl,hrv⟩:=kH hv;cases hrv;split at hr;rename_i v ha;cases hr;refine(hok s hs v ha w).mono ?_;rintro e w' ⟨rfl,hb⟩;obtain⟨ev,H'⟩:=gQ H hb;refine⟨_,ρ,O,rfl,ev,H',?_⟩;refine .tup _ _ rfl ?_;intro i x y hx hy
 match i,hx,hy with
 |0,hx,hy=>simp at hx hy;subst hx;subst hy;exact .int _ _
 |1,hx,hy=>simp at hx hy;subst hx;subst hy;exact .nili
 |i+2,hx,hy=>simp at hx
 rename_i ha;cases hr;obtain⟨te,pe,hce⟩:=hcell g2 hg2;refine(hra s hs ha w te pe hce).mono ?_;rintro e w' ⟨t,p,rfl,hb⟩;obtain⟨ev,H'⟩:=gQ H hb;refine⟨_,ρ,O,rfl,ev,H',?_⟩;refine .tup _ _ rfl ?_;intro i x y hx hy
 match i,hx,hy with
 |0,hx,hy=>simp at hx hy;subst hx;subst hy;exact .int _ _
 |1,hx,hy=>simp at hx hy;subst hx;subst hy;exact .ifc _ _ _ (.top _)
 |i+2,hx,hy=>simp at hx
 rename_i ha1 ha2;cases hr;obtain⟨te,pe,hce⟩:=hcell g1 hg1;refine(hsy s hs (λv e=>ha1 v e) (λe=>ha2 e) w te pe hce).mono ?_;rintro e w' ⟨t,p,rfl,hb⟩;obtain⟨ev,H'⟩:=gQ H hb;refine⟨_,ρ,O,rfl,ev,H',?_⟩;refine .tup _ _ rfl ?_;intro i x y hx hy
 match i,hx,hy with
 |0,hx,hy=>simp at hx hy;subst hx;subst hy;exact .int _ _
 |1,hx,hy=>simp at hx hy;subst hx;subst hy;exact .ifc _ _ _ (.top _)
 |i+2,hx,hy=>simp at hx
theorem oQ:∀{cs:List AV}{zs:List Int},kQ cs=some zs->cs=zs.map aI
 |[],zs,h=>by simp[kQ]at h;subst h;rfl
 |x::r,zs,h=>by
  cases x with
  |int k n=>
   cases k<;>simp only[kQ]at h
   case i64=>simp only[gC]at h;obtain⟨l,h1,rfl⟩:=h;rw[oQ h1];rfl
   all_goals cases h
  |_=>simp[kQ]at h
end
end
section
open Go.Sort
section
variable{P:Program}{num:Nm}{gl:Nat->Option AV}{gnum:Nat->Nat}{Fb:Nat->Prop}{B0:Nat}{ρ : Rho}{w w':World}{O:Nat->Prop}{h:Hp}
theorem Rv.int_eq{F:Nat->Prop}{n:Int}{y:Value}(h:Rv num ρ w F (aI n) y):y = .int .i64 n:=by have h':Rv num ρ w F (.int .i64 n) y:=h;cases h';rfl
theorem yD{k e off len:Nat}{cs:List AV}{esz:Nat}{ag ti fz:Bool}{L:Loc}{zs:List Int}(H:HpR num Fb B0 ρ w O h)(hg:h.get k=some (e,.blk cs esz ag ti fz))(hL : ρ k e=some L)
  (hz:(cs.drop off).take len=zs.map aI) (hl:off+len<=cs.length):Holds (Value.int .i64) w L.b (L.base+off) zs.toArray/\L.b<w.heap.size/\zs.length=len:=by
 obtain⟨L0,c,T,h1,h2,h3,h4,h5,h6,h7,h8,h9,h10⟩:=H.blk _ _ _ _ _ _ _ hg;rw[h1]at hL;cases hL;have hzl:zs.length=len:=by have:=congrArg List.length hz;simp at this;omega
 refine⟨?_,?_,hzl⟩;intro j hj;have hj':j<zs.length:=by simpa using hj
 have hx:cs[off+j]?=some (aI (zs[j]'hj')):=by have:=congrArg (λl:List AV=>l[j]?) hz;simp only[List.getElem?_map,List.getElem?_take,List.getElem?_drop,cD hj',Option.map_some]at this;rw[if_pos (by omega)]at this;exact this
 obtain⟨y,hy,hr⟩:=h7 _ _ hx;have hy2:=hr.int_eq;subst hy2;refine⟨?_,?_⟩;simp only[World.cell?,h4,Option.isSome_none,Bool.false_eq_true,if_false];rw[Nat.add_assoc,hy,getElem!_pos zs.toArray j hj];simp;simp[World.frozen?,h4];by_cases hlt:L.b<w.heap.size;exact hlt;simp[Array.getElem?_eq_none (Nat.le_of_not_lt hlt)]at h4
theorem GN{k e off len n:Nat}{cs:List AV}{esz:Nat}{ag ti:Bool}{L:Loc}{zs:List Int}(H:HpR num Fb B0 ρ w O h)(hg:h.get k=some (e,.blk cs esz ag ti false))(hL : ρ k e=some L)
  (hz:zs.length=len) (hl:off+len<=cs.length) :
  Evo ρ w O ρ (putRow (Value.int .i64) (Sort.ahead w n) L.b (L.base+off) zs.toArray) O/\HpR num Fb B0 ρ (putRow (Value.int .i64) (Sort.ahead w n) L.b (L.base+off) zs.toArray) O (h.put k e (.blk (cE cs off (zs.map aI)) esz ag ti false)):=by
 obtain⟨L0,c,T,h1,h2,h3,h4,h5,h6,h7,h8,h9,h10⟩:=H.blk _ _ _ _ _ _ _ hg;rw[h1]at hL;cases hL
 have hget:∀i,(putCells (Value.int .i64) (L.base+off) zs.toArray c)[i]?=(c[i]?).map λx=>if L.base+off<=i/\i<L.base+off+zs.length then .int .i64 zs.toArray[i-(L.base+off)]! else x:=by intro i;simp only[putCells,Array.getElem?_mapIdx,List.size_toArray]
 refine H.write (c':=putCells (Value.int .i64) (L.base+off) zs.toArray c) (T:=T) hg h1 ⟨rfl,rfl,rfl,?_,?_,?_⟩ ?_ ?_ ?_;simp[putRow,mapBlock,Sort.ahead];simp only[putRow,mapBlock,Sort.ahead,Array.getElem?_modify,if_true,h4,Option.map_some,onCells];intro b hb;simp only[putRow,mapBlock,Sort.ahead,Array.getElem?_modify];rw[if_neg (λh=>hb h.symm)];simp only[putCells,Array.size_mapIdx];exact h5;simp only[cE,d6,List.length_take,List.length_drop,d7];omega;intro i x hx;rw[hget];simp only[cE,List.append_assoc]at hx;by_cases hi1:i<off;rw[List.getElem?_append_left (by simp;omega),List.getElem?_take,if_pos hi1]at hx;obtain⟨y,hy,hr⟩:=h7 _ _ hx;refine⟨y,?_,hr⟩;rw[hy,Option.map_some,if_neg (by omega)];rw[qS (by simp;omega)]at hx;have htk:(cs.take off).length=off:=by simp;omega
 rw[htk]at hx;by_cases hi2:i<off+len;rw[List.getElem?_append_left (by simp;omega),List.getElem?_map]at hx;have hlt:i-off<zs.length:=by omega
 rw[cD hlt,Option.map_some]at hx;cases hx;have hcs:i<cs.length:=by omega
 obtain⟨y,hy,_⟩:=h7 i _ (cD hcs);refine⟨_,by rw[hy,Option.map_some,if_pos (by omega)],?_⟩;have e1:L.base+i-(L.base+off)=i-off:=by omega
 rw[e1,getElem!_pos zs.toArray (i-off) (by simpa using hlt)];simp only[List.getElem_toArray];exact .int _ _;rw[qS (by simp;omega),List.getElem?_drop]at hx;have e2:off+(zs.map aI).length+(i-off-(zs.map aI).length)=i:=by simp;omega
 rw[e2]at hx;obtain⟨y,hy,hr⟩:=h7 _ _ hx;refine⟨y,?_,hr⟩;rw[hy,Option.map_some,if_neg (by omega)]
theorem BF(w:World)(os:Array Obj):RowKit.Below w.heap.size w (grow w os) where
 os:=rfl
 tape:=rfl
 output:=rfl
 size:=by simp[grow]
 block:=λk hk=>by simp[grow,Array.getElem?_append_left hk]
theorem WG(hfn:oE P (num 75))
  (hc:∀(blk off cap:Nat)(zs:List Int)(w:World),Holds (Value.int .i64) w blk off zs.toArray->blk<w.heap.size->zs.length<=16777216 ->
   Calls P (num 75) #[.slice (some ⟨blk,off,none⟩) zs.length cap] w λe w'=>e = .returned (.tuple #[])/\∃n os,w'=grow (putRow (Value.int .i64) (Sort.ahead w n) blk off (gU zs).toArray) os)
  (hn:∀(p:Option Addr)(cap:Nat)(w:World),Calls P (num 75) #[.slice p 0 cap] w λe w'=>e = .returned (.tuple #[])/\w'=w) :
  cW P num gl gnum ⟨λf' avs kb h=>if f'=75 then oW avs kb h else none,λ_ _ _ _=>none⟩:=by
 intro f avs kb h r h' hr;dsimp only at hr;split at hr
 case isFalse=>cases hr
 rename_i hf;subst hf;refine⟨hfn,?_⟩;intro Fb B0 ρ O w vs H hG hv;have htup:∀{ρ : Rho}{w:World}{F:Nat->Prop},Rv num ρ w F (.tup []) (.tuple #[]):=.tup _ _ rfl (λi x y hx=>by simp at hx);unfold oW at hr;split at hr;cases hr;obtain⟨c,rfl,hrv⟩:=kH hv;have:∃p cap,c = .slice p 0 cap:=by cases hrv<;>exact⟨_,_,rfl⟩
 obtain⟨p,cap,rfl⟩:=this;refine(hn p cap w).mono ?_;rintro e w' ⟨rfl,rfl⟩;exact⟨_,ρ,O,rfl,Evo.refl _ _ _,H,htup⟩;rename_i k e off len cap;split at hr
 case h_2=>cases hr
 rename_i e' cs ti hg;split at hr
 case isFalse=>cases hr
 rename_i hcond;obtain⟨rfl,hle,hbig⟩:=hcond;split at hr
 case h_2=>cases hr
 rename_i zs hzs;cases hr;obtain⟨c,rfl,hrv⟩:=kH hv;cases hrv with
 |rf _ _ _ _ _ cap' L hL hlen hcap ht hroom=>obtain⟨hH,hb,hzl⟩:=yD H hg hL (oQ hzs) hle;have hcall:=hc L.b (L.base+off) cap' zs w hH hb (by omega);rw[hzl]at hcall;refine hcall.mono ?_;rintro e w' ⟨rfl,n,os,rfl⟩;obtain⟨ev,H1⟩:=GN (n:=n) H hg hL (zs:=gU zs) (by rw[j9];exact hzl) hle;obtain⟨ev2,H2⟩:=gQ H1 (BF _ os);exact⟨_,ρ,O,rfl,ev.trans ev2,H2,htup⟩
 cases hr
theorem YO(hfn:oE P (num 76))
  (hc:∀(blk off cap:Nat)(zs:List Int)(w:World),Holds (Value.int .i64) w blk off zs.toArray->zs.length<=16777216->zs.length<=cap ->
   Calls P (num 76) #[.slice (some ⟨blk,off,none⟩) zs.length cap] w λe w'=>e = .returned (.slice (some ⟨blk,off,none⟩) (bW zs).length cap)/\∃q,w'=putRow (Value.int .i64) (Sort.ahead w q) blk off (bW zs++List.replicate (zs.length-(bW zs).length) 0).toArray)
  (hn:∀(p:Option Addr)(cap:Nat)(w:World),Calls P (num 76) #[.slice p 0 cap] w λe w'=>e = .returned (.slice p 0 cap)/\w'=w) :
  cW P num gl gnum ⟨λf' avs kb h=>if f'=76 then oX avs kb h else none,λ_ _ _ _=>none⟩:=by
 intro f avs kb h r h' hr;dsimp only at hr;split at hr
 case isFalse=>cases hr
 rename_i hf;subst hf;refine⟨hfn,?_⟩;intro Fb B0 ρ O w vs H hG hv;unfold oX at hr;split at hr;cases hr;obtain⟨c,rfl,hrv⟩:=kH hv;have:∃p cap,c = .slice p 0 cap:=by cases hrv<;>exact⟨_,_,rfl⟩
 obtain⟨p,cap,rfl⟩:=this;refine(hn p cap w).mono ?_;rintro e w' ⟨rfl,rfl⟩;exact⟨_,ρ,O,rfl,Evo.refl _ _ _,H,hrv⟩;rename_i k e off len cap;split at hr
 case h_2=>cases hr
 rename_i e' cs ti hg;split at hr
 case isFalse=>cases hr
 rename_i hcond;obtain⟨rfl,hle,hbig⟩:=hcond;split at hr
 case h_2=>cases hr
 rename_i zs hzs;cases hr;obtain⟨c,rfl,hrv⟩:=kH hv;cases hrv with
 |rf _ _ _ _ _ cap' L hL hlen hcap ht hroom=>
  obtain⟨hH,hb,hzl⟩:=yD H hg hL (oQ hzs) hle;have hcl:=o8 zs;have hcall:=hc L.b (L.base+off) cap' zs w hH (by omega) (by omega);rw[hzl]at hcall;refine hcall.mono ?_;rintro e w' ⟨rfl,n,rfl⟩;have hln:(bW zs++List.replicate (zs.length-(bW zs).length) 0).length=len:=by simp;omega
  obtain⟨ev,H1⟩:=GN (n:=n) H hg hL hln hle;rw[hzl]at ev H1 ⊢;exact⟨_,ρ,O,rfl,ev,H1,.rf _ _ _ _ _ cap' L hL (by omega) hcap ht hroom⟩
 cases hr
end
end
section
def qX:List AV->Option (List (List UInt8))
 |[]=>some []
 |.str s::r=>(qX r).map (s :: ·)
 |_=>none
def wT(args:List AV)(_:Nat)(h:Hp):Option (AV×Hp):=
 match args with
 |[.sl _ es _,.str sep]=>
  match qX es with
  |some l=>if l.length<=16777216/\(Lib.join l sep).length<=140737488355328 then some (.str (Lib.join l sep),h) else none
  |none=>none
 |_=>none
theorem tW:∀{es:List AV}{l:List (List UInt8)},qX es=some l->es=l.map AV.str
 |[],l,h=>by cases h;rfl
 |.str s::r,l,h=>by simp only[qX,gC]at h;obtain⟨l',h1,rfl⟩:=h;rw[tW h1];rfl
 |.top::_,_,h|.bool _::_,_,h|.int _ _::_,_,h|.nilp::_,_,h|.nilm::_,_,h|.nilf::_,_,h|.nili::_,_,h|.agg _::_,_,h|.tup _::_,_,h|.sl _ _ _::_,_,h|.fp _::_,_,h
 |.rf _ _ _ _ _::_,_,h|.pt _ _ _::_,_,h|.mp _ _::_,_,h|.yl _ _::_,_,h|.fn _ _::_,_,h|.ifc _::_,_,h|.os _ _ _::_,_,h|.ift _ _::_,_,h|.fnm _ _::_,_,h=>by simp[qX]at h
section
variable{P:Program}{num:Nm}{gl:Nat->Option AV}{gnum:Nat->Nat}{Fb:Nat->Prop}{B0:Nat}{ρ : Rho}{w w':World}{O:Nat->Prop}{h:Hp}
theorem X9(F:Nat)(hfn:oE P (num F))
  (h0:∀(a:Option Addr)(c:Nat)(sep:ByteArray)(w:World),Calls P (num F) #[.slice a 0 c,.string sep] w λe w'=>e = .returned (.string ⟨#[]⟩)/\w'=w)
  (hc:∀(bk o c:Nat)(xs:List ByteArray)(sep:ByteArray)(w:World),(∀(j:Nat) x,xs[j]?=some x->w.cell? ⟨bk,o+j,none⟩=some (.string x))->bk<w.heap.size->xs.length<=140737488355328->xs.length<=c ->
   (Lib.join (xs.map (·.data.toList)) sep.data.toList).length<=140737488355328 ->
   Calls P (num F) #[.slice (some ⟨bk,o,none⟩) xs.length c,.string sep] w λe w'=>e = .returned (.string ⟨(Lib.join (xs.map (·.data.toList)) sep.data.toList).toArray⟩)/\RowKit.Below w.heap.size w w') :
  cW P num gl gnum ⟨λf' avs kb h=>if f'=F then wT avs kb h else none,λ_ _ _ _=>none⟩:=by
 intro f avs kb h r h' hr;dsimp only at hr;split at hr
 case isFalse=>cases hr
 rename_i hf;subst hf;refine⟨hfn,?_⟩;intro Fb B0 ρ O w vs H hG hv;unfold wT at hr;split at hr
 case h_2=>cases hr
 rename_i nl es cl sep;split at hr
 case h_2=>cases hr
 rename_i l hl;split at hr
 case isFalse=>cases hr
 rename_i hb;cases hr;obtain rfl:=tW hl
 obtain⟨a,rfl,ha⟩:∃a,vs=[a,.string ⟨sep.toArray⟩]/\Rv num ρ w (λb=>Fb b\/O b) (.sl nl (l.map AV.str) cl) a:=by
  cases hv with
  |cons ha h2=>cases h2 with
   |cons hcs h3=>cases h3;obtain rfl:=hcs.of_str;exact⟨_,rfl,ha⟩
 cases l with
 |nil=>
  have:∃p cap,a = .slice p 0 cap:=by cases ha<;>exact⟨_,_,rfl⟩
  obtain⟨p,cap,rfl⟩:=this;refine(h0 p cap _ w).mono ?_;rintro e w' ⟨rfl,rfl⟩;exact⟨_,ρ,O,rfl,Evo.refl _ _ _,H,.str _⟩
 |cons s r=>
  generalize hls:s::r=l at *;have hne:l.map AV.str≠[]:=by rw[<-hls];simp
  obtain⟨es,hes⟩:∃es,es=l.map AV.str:=⟨_,rfl⟩
  rw[<-hes]at ha hne;cases ha with
  |nsl=>exact absurd rfl hne
  |sl _ _ b off cap sz c hcap hcl hF hz hm hr sp hsp=>
   obtain rfl:=hsp hne;have hsz:sz=1:=by have:=hz 0 (.str s) (by rw[hes,<-hls];rfl);simpa[AV.cells] using this.symm
   subst hsz
   have hce:∀(j:Nat)(x:ByteArray),(l.map λs=>(⟨s.toArray⟩:ByteArray))[j]?=some x->w.cell? ⟨b,off+j,none⟩=some (.string x):=by
    intro j x hx;rw[List.getElem?_map,gC]at hx;obtain⟨t,ht,rfl⟩:=hx;have hlt:j<l.length:=by rcases Nat.lt_or_ge j l.length with h|h;exact h;rw[bR h]at ht;cases ht
    have h1:=hm j (by rw[hes];simpa using hlt);have h2:=hr j (.str t) 0 (.str t) (by rw[hes,List.getElem?_map,ht];rfl) rfl;rw[Nat.mul_one,Nat.add_zero]at h2;rw[h1,h2.of_str]
   have hmap:(l.map λs=>(⟨s.toArray⟩:ByteArray)).map (·.data.toList)=l:=by rw[List.map_map];exact List.map_id'' (λs=>rfl) l
   have hlen:(l.map λs=>(⟨s.toArray⟩:ByteArray)).length=es.length:=by rw[hes];simp
   have:=hc b off cap (l.map λs=>(⟨s.toArray⟩:ByteArray)) ⟨sep.toArray⟩ w hce (hF hne).2 (by rw[d7];omega) (by rw[hlen];exact hcap) (by rw[hmap];simpa using hb.2);rw[hmap,hlen]at this;refine this.mono ?_;rintro e w' ⟨rfl,hbe⟩;obtain⟨ev,H'⟩:=gQ H hbe;exact⟨_,ρ,O,rfl,ev,H',.str _⟩
end
end
section
def DS(args:List AV)(_:Nat)(h:Hp):Option (AV×Hp):=
 match args with
 |[.str s,.str sep]=>bif s.length.ble 1000000 then some (.tup [.str (Lib.cut s sep).1,.str (Lib.cut s sep).2.1,.bool (Lib.cut s sep).2.2],h) else none
 |_=>none
section
variable{P:Program}{num:Nm}{gl:Nat->Option AV}{gnum:Nat->Nat}
theorem aBa(F g:Nat)(m:Int)(hgl:gl g=some (.int .i64 m))(hfn:oE P (num F))
  (hc:∀(s sep:ByteArray)(w:World),s.size<=1000000->w.cell? ⟨gnum g,0,none⟩=some (.int .i64 m)->Calls P (num F) #[.string s,.string sep] w λe w'=>
   e = .returned (.tuple #[.string ⟨(Lib.cut s.data.toList sep.data.toList).1.toArray⟩,.string ⟨(Lib.cut s.data.toList sep.data.toList).2.1.toArray⟩,.bool (Lib.cut s.data.toList sep.data.toList).2.2])/\RowKit.Below w.heap.size w w') :
  cW P num gl gnum ⟨λf' avs kb h=>if f'=F then DS avs kb h else none,λ_ _ _ _=>none⟩:=by
 intro f avs kb h r h' hr;dsimp only at hr;split at hr
 case isFalse=>cases hr
 rename_i hf;subst hf;refine⟨hfn,?_⟩;intro Fb B0 ρ O w vs H hG hv;unfold DS at hr;split at hr
 case h_2=>cases hr
 rename_i s sep;cases hb:s.length.ble 1000000 with
 |false=>rw[hb]at hr;cases hr
 |true=>
 rw[hb]at hr;cases hr;obtain rfl:vs=[.string ⟨s.toArray⟩,.string ⟨sep.toArray⟩]:=by
  cases hv with
  |cons ha h2=>cases h2 with
   |cons hcs h3=>cases h3;rw[ha.of_str,hcs.of_str]
 have hcell:w.cell? ⟨gnum g,0,none⟩=some (.int .i64 m):=by
  have h1:=(hG g _ hgl).2;cases h1 with
  |fp _ b off c hF hb hm hr=>have h2:=hm 0 (by simp[AV.cells]);have h3:=hr 0 _ rfl;rw[Nat.add_zero]at h2;rw[h2,h3.of_int]
 refine(hc ⟨s.toArray⟩ ⟨sep.toArray⟩ w (by simpa[ByteArray.size] using Nat.le_of_ble_eq_true hb) hcell).mono ?_;rintro e w' ⟨rfl,hbe⟩;obtain⟨ev,H'⟩:=gQ H hbe;refine⟨_,ρ,O,rfl,ev,H',?_⟩;refine .tup _ _ rfl ?_;intro i x y hx hy
 match i with
 |0=>simp at hx hy;subst hx;subst hy;exact .str _
 |1=>simp at hx hy;subst hx;subst hy;exact .str _
 |2=>simp at hx hy;subst hx;subst hy;exact .bool _
 |n+3=>simp at hx
end
end
end Go.Tev
