import Derived.Test.YtmcadllokkmeiaaGreatDoorBAQ
import Derived.Lib.AtoiAll
import Derived.Lib.AtoiAllCases
import Derived.Test.YtmcadllokkmeiaaGreatDoorBAG
import Derived.Lib.SlicesCompact
import Derived.Lib.ItoaNum
import Derived.Lib.AtoiErrMem
import Derived.Sort.Grow
set_option linter.all false
namespace Go.Tev
section
mutual
def aC.sz:aC->Nat
 |.mk _ _ _ _ _ _ _ _ _ aSj _=>1+aC.szL aSj
def aC.szL:List aC->Nat
 |[]=>0
 |p::r=>p.sz+aC.szL r
end
theorem aC.sz_eq(p:aC):p.sz=1+aC.szL p.aSj:=by cases p;rw[aC.sz];rfl
theorem aC.szL_mem:∀{l:List aC}{q:aC},q∈l->q.sz<=aC.szL l
 |x::r,q,h=>by rcases dA.1 h with rfl|h;rw[aC.szL];omega;have:=aC.szL_mem h;rw[aC.szL];omega
mutual
def jO(aSe:Int):aC->List Str->Bool
 |.mk op num value name at_ dyn check fn knl aSj kcl,vars=>
  gV (.mk op num value name at_ dyn check fn knl aSj kcl) vars aSe&&d4 at_.es vars&&jL aSe (decide (op.bs=[114,101,100,117,99,101])) name vars 0 aSj
def jL(aSe:Int)(red:Bool)(name:Str)(vars:List Str):Nat->List aC->Bool
 |_,[]=>true
 |i,k::r=>jO aSe k (if red&&decide ((i:Int)=1) then vars++[name] else vars)&&jL aSe red name vars (i+1) r
end
theorem sF(aSe:Int)(p:aC)(vars:List Str):jO aSe p vars=(gV p vars aSe&&d4 p.at_.es vars&&jL aSe (decide (p.op.bs=[114,101,100,117,99,101])) p.name vars 0 p.aSj):=by cases p;rw[jO];rfl
theorem Own.snap{h:Hp}{k0 esz:Nat}{ag:Bool}{v:AV}{es:List AV}(o:Own h k0 esz ag v es)(he:∀x∈es,El esz ag x)(d:Nat):∃nl cl keys,Tev.snap (d+2) h v=some (.sl nl es cl,keys)/\(nl=true->es=[]):=by
 rcases o with ⟨rfl,nl,cl,rfl,hc⟩|⟨e,cs,rfl,hg,hu⟩
 exact⟨nl,cl,[],by rw[fE];rfl,λ_=>rfl⟩;obtain⟨cs',h1,h2,h3,h4⟩:=eD he;rw[hu]at h1;cases h1;have h5:=h4 [];rw[List.append_nil]at h5;have ht:treeL es=true:=by
  clear h2 h4 h5 hu hg
  induction es with
  |nil=>rfl
  |cons x r ih=>simp only[treeL,aF];exact⟨(he x (by simp)).tree,ih (λy hy=>he y (dY _ hy))⟩
 have h6:eN (Tev.snap (d+1) h) es=some (es,[]):=fI d h ht;exact⟨false,false,[k0],by rw[fE];simp[hg,h5,h6,AV.tree],λh=>by cases h⟩
theorem pN{h:Hp}{d:Nat}{a:AV}(ha:a.tree=true):Tev.snap (d+1) h a=some (a,[]):=by rw[fE,if_pos ha]
theorem uA{h:Hp}{d:Nat}{a b c b':AV}{keys:List Nat}(ha:a.tree=true)(hb:Tev.snap (d+1) h b=some (b',keys))(hc:c.tree=true):eN (Tev.snap (d+1) h) [a,b,c]=some ([a,b',c],keys):=by simp[bM,cW,pN ha,pN hc,hb]
section
variable{pg:Pg}
theorem c147(hf:pg.fs 147=some RX)(h182:∀(p:aC),p.aSj.length<=big->∀(nl cl:Bool) (vars:List Str),vars.length<=big->∀v:Int,Ret pg 182 [p.av,.sl nl (vars.map Str.av) cl,.int .i64 v] (.bool (gV p vars v)))
  (h183:∀(nl cl:Bool)(ls:List Lin),ls.length<=big->∀(nl' cl':Bool)(vars:List Str),vars.length<=big->Ret pg 183 [.sl nl (ls.map Lin.av) cl,.sl nl' (vars.map Str.av) cl'] (.bool (d4 ls vars)))
  (h184:pg.fs 184=some J7) (h209:pg.fs 209=some G6) (v:Int) :
  ∀p:aC,p.ok->∀(nl cl:Bool)(vars:List Str),vars.length+p.sz<=big->Ret pg 147 [p.av,.sl nl (vars.map Str.av) cl,.int .i64 v] (.bool (jO v p vars)):=by
 refine aC.ind' λp ih hp nl cl vars hb=>?_;obtain⟨hk,hks⟩:=(aC.ok_iff p).1 hp;have hsz:=aC.sz_eq p;have a1:=h182 p hk nl cl vars (by omega) v;have a2:=h183 p.at_.nl p.at_.cl p.at_.es p.at_.ok nl cl vars (by omega);rw[aC.avc]at a1;clear h182 h183;refine Ret.ofX hf ?_;unfold RX;refine Wk ?_;refine aB (a1) (Wk ?_);cases b1:gV p vars v;refine Wk ?_;rw[sF,b1];rfl;refine Wk ?_;refine aB (a2) (Wk ?_);cases b2:d4 p.at_.es vars;refine Wk ?_;rw[sF,b1,b2];rfl;refine Wk ?_;generalize hred:decide (p.op.bs=[114,101,100,117,99,101])=red;have hspec:jO v p vars=jL v red p.name vars 0 p.aSj:=by rw[sF,b1,b2,hred];rfl
 rw[hspec];refine fJ p.aSj (λd e=>fP e (some 25) (.int .i64 d.length)) (λd r hp=>hp.get 1=some (0,.blk [.str p.op.bs,.int .i64 p.num,.int .i64 p.value,.str p.name.bs,.sl p.at_.nl (p.at_.es.map Lin.av) p.at_.cl,.bool p.dyn,.int .i64 p.check,.sl p.fn.nl (p.fn.es.map aP.av) p.fn.cl,.sl p.knl (p.aSj.map aC.av) p.kcl] 9 true true false)/\jL v red p.name vars 0 p.aSj=jL v red p.name vars d.length r) rfl ?_ ?_ ?_;exact⟨rfl,rfl⟩;rintro hp ⟨h1,hI⟩;simp only[NR,NP,go_sem,seval];rw[hI];rfl;rintro d x r hp hes ⟨h1,hI⟩;have hxm:x∈p.aSj:=by rw[hes];simp
 have hxs:x.sz<=aC.szL p.aSj:=aC.szL_mem hxm;have hx:=ih x hxm (hks x hxm);simp only[jL]at hI;have hb2:(d++x::r).length<=big:=by rw[<-hes];exact hk
 have hlast:∀own:List Str,∀hp2:Hp,hp2.get 1=hp.get 1->jO v x own=jO v x (if red&&decide ((d.length:Int)=1) then vars++[p.name] else vars)->True:=λ_ _ _ _=>trivial;have h0:=h1;rw[hes]at h1 ⊢;simp only[NR,NP,h1,hred,go_sem,seval];cases c1:red;refine Wk ?_;have hx1:=hx nl cl vars (by omega);rw[aC.avc]at hx1;refine aB (hx1) ?_;rw[c1]at hI;refine Wk ?_;cases b3:jO v x vars;refine Wk ?_;rw[<-hes,hI];simp[b3];simp only[aZ hb2,go_sem,seval];rw[<-hes];exact⟨h0,by simpa[b3] using hI⟩;refine Wk ?_;cases c2:decide ((d.length:Int)=1);simp only[c2,go_sem,seval];have hx1:=hx nl cl vars (by omega);rw[aC.avc]at hx1;refine aB (hx1) ?_;rw[c1,c2]at hI;refine Wk ?_;cases b3:jO v x vars;refine Wk ?_;rw[<-hes,hI];simp[b3];simp only[aZ hb2,go_sem,seval];rw[<-hes];exact⟨h0,by simpa[b3] using hI⟩;simp only[c2,h1,go_sem,seval];refine CL (c184 h184 h209 nl cl vars p.name (by omega)) (by simp only[go_sem,seval]) (El.strs (vars++[p.name])) ?_;intro v' rd pa ho hkk hpa;simp only[hkk,go_sem,seval];obtain⟨nl2,cl2,keys,hsn,hnl⟩:=ho.snap (El.strs (vars++[p.name])) 62;have hx2:=hx nl2 cl2 (vars++[p.name]) (by simp;omega);rw[aC.avc]at hx2;refine cR hx2 (uA (by simp only[go_sem,seval]) hsn (by simp only[go_sem,seval])) (v:=.bool (jO v x (vars++[p.name]))) (pa:=[]) rfl ?_;rw[c1,c2]at hI;simp only[hkk,go_sem,seval];cases b3:jO v x (vars++[p.name]);refine Wk ?_;rw[<-hes,hI];simp[b3];simp only[aZ hb2,hkk,go_sem,seval];rw[<-hes];exact⟨h0,by simpa[b3] using hI⟩
def jQ(p:aC)(vars:List Str)(v:Int):Bool:=decide (tX p<=4000)&&jO v p vars
theorem c109(hf:pg.fs 109=some SD)(h146:pg.fs 146=some KD)(h147:∀p:aC,p.ok->∀(nl cl:Bool) (vars:List Str),vars.length+p.sz<=big->∀v:Int,Ret pg 147 [p.av,.sl nl (vars.map Str.av) cl,.int .i64 v] (.bool (jO v p vars)))
  (p:aC) (hp:p.ok) (nl cl:Bool) (vars:List Str) (hb:vars.length+p.sz<=big) (v:Int):Ret pg 109 [p.av,.sl nl (vars.map Str.av) cl,.int .i64 v] (.bool (jQ p vars v)):=by
 have a1:=c146 h146 p hp;have a2:=h147 p hp nl cl vars hb v;rw[aC.avc]at a1 a2;refine Ret.ofX hf ?_;clear h146 h147;unfold SD
 repeat' (first|simp only[*,go_sem,seval]|refine bB (λ_=>?_) (λ_=>?_)|refine bD (λ_=>?_) (λ_=>?_)|(refine aB a1 ?_)|(refine aB a2 ?_)|refine aY ?_)
 all_goals (clear a1 a2)
 all_goals (simp_all [jQ])
 all_goals (intro h;exfalso;omega)
def hZ(a b:aP):Bool:=decide (a.op.bs=b.op.bs)&&decide (a.num=b.num)&&eqL (λx y=>decide (x=y)) a.args.es b.args.es
mutual
def fH:aC->aC->Bool
 |.mk op num value name at_ dyn check fn knl aSj kcl,q=>decide (op.bs=q.op.bs)&&decide (num=q.num)&&decide (value=q.value)&&decide (name.bs=q.name.bs)&&(dyn==q.dyn)&&decide (check=q.check)&&eqL cN at_.es q.at_.es&&eqL hZ fn.es q.fn.es&&rF aSj q.aSj
def rF:List aC->List aC->Bool
 |[],l=>l.isEmpty
 |p::r,l=>match l with|[]=>false|q::s=>fH p q&&rF r s
end
theorem sP(p q:aC):fH p q=(decide (p.op.bs=q.op.bs)&&decide (p.num=q.num)&&decide (p.value=q.value)&&decide (p.name.bs=q.name.bs)&&(p.dyn==q.dyn)&&decide (p.check=q.check)&&eqL cN p.at_.es q.at_.es&&eqL hZ p.fn.es q.fn.es&&rF p.aSj q.aSj):=by cases p;rw[fH];rfl
theorem nX:∀a b:List aC,rF a b=eqL fH a b
 |[],[]=>by simp[rF,eqL]
 |[],_::_=>by simp[rF,eqL]
 |_::_,[]=>by simp[rF,eqL]
 |p::r,q::s=>by simp[rF,eqL,nX r s]
theorem c181(hf:pg.fs 181=some RT)(nl cl nl' cl':Bool)(es es':List Int)(hb:es.length<=big):Ret pg 181 [.sl nl (es.map aH) cl,.sl nl' (es'.map aH) cl'] (.bool (eqL (λx y=>decide (x=y)) es es')):=
 aCR (f:=181) (k:=.bin .neq) hf aH (λ_=>rfl) nl cl nl' cl' es es' hb _ (by intro kb s h x y Q t;simp only[go_sem,seval]) rfl
theorem c180(hf:pg.fs 180=some RU)(h181:pg.fs 181=some RT)(a b:aP):Ret pg 180 [a.av,b.av] (.bool (hZ a b)):=by
 have k:=c181 h181 a.args.nl a.args.cl b.args.nl b.args.cl a.args.es b.args.es a.args.ok;refine Ret.ofX hf ?_;unfold RU
 repeat' (first|simp only[*,go_sem,seval]|refine bB (λ_=>?_) (λ_=>?_)|refine bD (λ_=>?_) (λ_=>?_)|(refine aB k ?_)|refine aY ?_)
 all_goals (clear k)
 all_goals (simp_all [hZ])
theorem c179(hf:pg.fs 179=some Y9)(h180:∀a b:aP,Ret pg 180 [a.av,b.av] (.bool (hZ a b)))(nl cl nl' cl':Bool)(es es':List aP)(hb:es.length<=big) :
  Ret pg 179 [.sl nl (es.map aP.av) cl,.sl nl' (es'.map aP.av) cl',.fn 180 []] (.bool (eqL hZ es es')):=
 UW (f:=179) (esz:=3) (ag:=true) rfl hf aP.av (λx=>[.str x.op.bs,.int .i64 x.num,x.args.av aH]) (λ_=>rfl) (λ_=>rfl) (λ_=>rfl) rfl (λx=>by simp only[go_sem,seval]) nl cl nl' cl' es es' hb 180 hZ (λx _ y _=>h180 x y)
theorem c144(hf:pg.fs 144=some RZ)(h179:∀(nl cl nl' cl':Bool) (es es':List aP),es.length<=big->Ret pg 179 [.sl nl (es.map aP.av) cl,.sl nl' (es'.map aP.av) cl',.fn 180 []] (.bool (eqL hZ es es')))
  (nl cl nl' cl':Bool) (es es':List aP) (hb:es.length<=big):Ret pg 144 [.sl nl (es.map aP.av) cl,.sl nl' (es'.map aP.av) cl'] (.bool (eqL hZ es es')):=by
 have k:=h179 nl cl nl' cl' es es' hb;refine Ret.ofX hf ?_;clear h179;unfold RZ
 repeat' (first|simp only[*,go_sem,seval]|refine bB (λ_=>?_) (λ_=>?_)|refine bD (λ_=>?_) (λ_=>?_)|(refine aB k ?_)|refine aY ?_)
theorem aC.one_cells(x:aC):cX x.cells=true:=rfl
theorem c105(hf:pg.fs 105=some SE)(h67:∀(nl cl nl' cl':Bool) (es es':List Lin),es.length<=big->Ret pg 67 [.sl nl (es.map Lin.av) cl,.sl nl' (es'.map Lin.av) cl',.fn 143 []] (.bool (eqL cN es es')))
  (h144:∀(nl cl nl' cl':Bool)(es es':List aP),es.length<=big->Ret pg 144 [.sl nl (es.map aP.av) cl,.sl nl' (es'.map aP.av) cl'] (.bool (eqL hZ es es'))) (h145:pg.fs 145=some ZB) :
  ∀p:aC,p.ok->∀q:aC,Ret pg 105 [p.av,q.av] (.bool (fH p q)):=by
 refine aC.ind' λp ih hp q=>?_;obtain⟨hk,hks⟩:=(aC.ok_iff p).1 hp;have a1:=h67 p.at_.nl p.at_.cl q.at_.nl q.at_.cl p.at_.es q.at_.es p.at_.ok;have a2:=h144 p.fn.nl p.fn.cl q.fn.nl q.fn.cl p.fn.es q.fn.es p.fn.ok;have a3:Ret pg 145 [.sl p.knl (p.aSj.map aC.av) p.kcl,.sl q.knl (q.aSj.map aC.av) q.kcl,.fn 105 []] (.bool (eqL fH p.aSj q.aSj)):=
  UW (f:=145) (esz:=9) (ag:=true) rfl h145 aC.av aC.cells aC.av_eq (λ_=>rfl) aC.one_cells rfl aC.tree_av p.knl p.kcl q.knl q.kcl p.aSj q.aSj hk 105 fH (λx hx y _=>ih x hx (hks x hx) y)
 refine Ret.ofX hf ?_;clear h67 h144 ih hks;unfold SE
 repeat' (first|simp only[*,go_sem,seval]|refine bB (λ_=>?_) (λ_=>?_)|refine bD (λ_=>?_) (λ_=>?_)|(refine aB a1 ?_)|(refine aB a2 ?_)|(refine aB a3 ?_)|refine aY ?_)
 all_goals (clear a1 a2 a3)
 all_goals (rw[sP,nX])
 all_goals (simp_all)
end
end
section
mutual
def fK:aC->List Int
 |.mk op _ value _ _ _ _ _ _ aSj _=>(if decide (op.bs=[114,101,97,100]) then [value] else [])++jP aSj
def jP:List aC->List Int
 |[]=>[]
 |p::r=>fK p++jP r
end
theorem IQ(p:aC):fK p=(if decide (p.op.bs=[114,101,97,100]) then [p.value] else [])++jP p.aSj:=by cases p;rw[fK];rfl
theorem CY:∀(d:List aC)(x:aC),jP (d++[x])=jP d++fK x
 |[],x=>by simp[jP]
 |y::d,x=>by simp[jP,CY d x]
mutual
theorem tR:∀p:aC,(fK p).length<=p.sz
 |.mk op num value name at_ dyn check fn knl aSj kcl=>by have:=yQ aSj;rw[fK,aC.sz,dC];split<;>simp<;>omega
theorem yQ:∀l:List aC,(jP l).length<=aC.szL l
 |[]=>by simp[jP,aC.szL]
 |p::r=>by have h1:=tR p;have h2:=yQ r;simp only[jP,aC.szL,dC];omega
end
def jK(pg:Pg)(f:Nat)(vs:List AV)(kb:Nat)(h:Hp)(P:AV->Hp->Prop):Prop:=∃r h',wX pg f vs kb h r h'/\P r h'
def Y2(res:List (Sum Nat (Nat×Nat×Bool)))(P:AV->Hp->Prop)(ex:Ex)(st:St):Prop:=
 match ex with
 |.ext _=>False
 |_=>∃v,result st res=some v/\P v st.hp
theorem aAy(res:List (Sum Nat (Nat×Nat×Bool)))(P:AV->Hp->Prop)(st:St):Y2 res P .nor st=∃v,result st res=some v/\P v st.hp:=rfl
theorem aAx(res:List (Sum Nat (Nat×Nat×Bool)))(P:AV->Hp->Prop)(st:St):Y2 res P .ret st=∃v,result st res=some v/\P v st.hp:=rfl
attribute [go_sem ↓] aAy aAx
section
variable{pg:Pg}{kb:Nat}
theorem jK.ofX{f:Nat}{cf:CF}{vs:List AV}{h:Hp}{P:AV->Hp->Prop}(hf:pg.fs f=some cf)(hw:XX pg kb cf.body ⟨enter cf vs,h⟩ (Y2 cf.res P) ⟨⟩):jK pg f vs kb h P:=by
 obtain⟨n,ex,st,h1,h2⟩:=hw;cases ex with
 |ext i=>exact h2.elim
 |nor=>obtain⟨v,h3,h4⟩:=h2;exact⟨v,st.hp,wX.of hf ⟨n,.nor,st,h1,trivial,h3,rfl⟩,h4⟩
 |ret=>obtain⟨v,h3,h4⟩:=h2;exact⟨v,st.hp,wX.of hf ⟨n,.ret,st,h1,trivial,h3,rfl⟩,h4⟩
theorem CM{f s:Nat}{th im:Bool}{h:Hp}{vs:List AV}{P:AV->Hp->Prop}{Q:AV->Eff->Prop}{t:Tok Q}(hm:im=true\/eN (snap depth h) vs=none){B:Nat}(hB:jU kb s vs=B)(hr:jK pg f vs B h P)
   (hq:∀r h',P r h'->Q r (.whole h')):XO pg kb (.call f th im) s h vs Q t:=by
 obtain⟨r,h',h1,h2⟩:=hr;exact qV hm hB h1 (hq r h' h2)
theorem uW{esz bytes s k1:Nat}{ag:Bool}{h:Hp}{v:AV}{es xs:List AV}{nl cl:Bool}{Q:AV->Eff->Prop}{t:Tok Q}(o:Own h k1 esz ag v es)(he:∀x∈es,El esz ag x)(hx:∀x∈xs,El esz ag x)(hxs:xs≠[])
  (hl:es.length+xs.length<=1073741824) (hb:bytes<=65536)
  (q2:∀v' rd pa,Own (Eff.app h (.pat rd pa)) (kb+s) esz ag v' (es++xs)->(∀k,k≠kb+s->k≠k1->(Eff.app h (.pat rd pa)).get k=h.get k)->Q v' (.pat rd pa)) :
  XO pg kb (.app esz ag bytes) s h [v,.sl nl xs cl] Q t:=by
 by_cases hk:k1=kb+s;subst hk;exact gR o he hx hl hb (λv' rd pa h1 h2 _=>q2 v' rd pa h1 (λk h3 _=>h2 k h3));exact OE o hk he hx hl hb (λh=>absurd h hxs) (λ_ v' rd pa h1 h2=>q2 v' rd pa h1 h2)
theorem xH{f:AV->Option (AV×List Nat)}:∀{l:List AV}{x:AV},x∈l->f x=none->eN f l=none
 |y::r,x,h,hf=>by
  rcases dA.1 h with rfl|h;simp[bM,hf];rw[bM];cases f y with
  |none=>rfl
  |some p=>simp[xH h hf]
theorem yJ{h:Hp}{f kw ew:Nat}{cs:List AV}{ti fz:Bool}(hg:h.get kw=some (ew,.blk [.fn f cs] 1 false ti fz))(hm:AV.pt kw ew 0∈cs):∀d,snap d h (.pt kw ew 0)=none
 |0=>rfl
 |1=>by rw[fE];simp[AV.tree,hg,bM,snap]
 |d+2=>by
  have ih:=yJ hg hm d;have hms:=xH hm ih;have ht:treeL cs=false:=by
   clear hms ih hg
   induction cs with
   |nil=>cases hm
   |cons x r ih2=>simp only[treeL];rcases dA.1 hm with rfl|hm;simp[AV.tree];simp[ih2 hm]
  rw[fE];simp[AV.tree,hg,bM,fE,ht,hms]
def Out(h:Hp)(v:AV)(es:List Int):Prop:=∃k,Own h k 1 false v (es.map aH)/\65536<=k/\k % 65536=5
theorem El.ints(l:List Int):∀x∈l.map aH,El 1 false x:=by intro x hx;simp only[List.mem_map]at hx;obtain⟨y,_,rfl⟩:=hx;exact⟨rfl,rfl,rfl⟩
theorem aC.szL_append:∀(a b:List aC),aC.szL (a++b)=aC.szL a+aC.szL b
 |[],b=>by simp[aC.szL]
 |x::r,b=>by simp[aC.szL,aC.szL_append r b];omega
def aES(h h':Hp)(kb:Nat):Prop:=∀q,q≠5->q % 65536≠5->q<kb->h'.get q=h.get q
def X3(eo:Nat)(h:Hp)(kb:Nat)(es:List Int)(r:AV)(h':Hp):Prop:=r = .tup []/\(∃v',h'.get 5=some (eo,.blk [v'] 1 false true false)/\Out h' v' es)/\aES h h' kb
theorem Out.put{h:Hp}{v:AV}{es:List Int}(o:Out h v es){q e:Nat}{ob:Ob}(hq:q<65536\/q % 65536≠5):Out (h.put q e ob) v es:=by obtain⟨k,o,h1,h2⟩:=o;refine⟨k,o.mono ?_,h1,h2⟩;rw[aI,if_neg (by intro h;subst h;omega)]
theorem Own.one{h:Hp}{k0 esz:Nat}{ag:Bool}{v:AV}{es:List AV}(o:Own h k0 esz ag v es):v.fits 1 false=true/\v.one=true/\v.cells=[v]:=by
 rcases o with ⟨rfl,nl,cl,rfl,hc⟩|⟨e,cs,rfl,hg,hu⟩
 exact⟨rfl,rfl,rfl⟩;exact⟨rfl,rfl,rfl⟩
theorem SO(p:aC)(hks:∀q∈p.aSj,q.ok)(hk:p.aSj.length<=big)(kb eo ew:Nat)(h:Hp)(hkb:65536<=kb)(hkb2:kb % 65536=0)(es:List Int)(hsz:es.length+aC.szL p.aSj<=big)
  (ih:∀q∈p.aSj,q.ok->∀(kb:Nat)(h:Hp)(v:AV)(es:List Int)(eo ew:Nat),65536<=kb->kb % 65536=0->es.length+q.sz<=big ->
   h.get 5=some (eo,.blk [v] 1 false true false)->h.get 9=some (ew,.blk [.fn 74 [.pt 5 eo 0,.pt 9 ew 0]] 1 false true false)->Out h v es ->
   jK pg 74 [q.av,.pt 5 eo 0,.pt 9 ew 0] kb h (X3 eo h kb (es++fK q)))
  (v:AV) (hp:Hp) (h5:hp.get 5=some (eo,.blk [v] 1 false true false)) (h9:hp.get 9=some (ew,.blk [.fn 74 [.pt 5 eo 0,.pt 9 ew 0]] 1 false true false)) (ho:Out hp v es) (hkeep:aES h hp kb) (env:List AV)
  (henv:clear VK env=L3 (.pt 9 ew 0) (.sl p.knl (p.aSj.map aC.av) p.kcl) (.int .i64 p.aSj.length) (.int .i64 0)) :
  XX pg kb (.loop LZ VK) ⟨env,hp⟩ (qU 0 (Y2 [] (X3 eo h kb (es++jP p.aSj)))) ⟨⟩:=by
 refine aJ p.aSj (λd r env hp=>env=L3 (.pt 9 ew 0) (.sl p.knl (p.aSj.map aC.av) p.kcl) (.int .i64 p.aSj.length) (.int .i64 d.length) /\
  ∃v,hp.get 5=some (eo,.blk [v] 1 false true false)/\hp.get 9=some (ew,.blk [.fn 74 [.pt 5 eo 0,.pt 9 ew 0]] 1 false true false)/\Out hp v (es++jP d)/\aES h hp kb) ?_ ?_ ?_
 exact⟨henv,v,h5,h9,by simpa[jP] using ho,hkeep⟩;rintro env hp ⟨rfl,v,h5,h9,ho,hkeep⟩;simp only[LZ,L3,go_sem,seval];exact⟨rfl,⟨v,h5,ho⟩,hkeep⟩;rintro d x r env hp hes ⟨rfl,v,h5,h9,ho,hkeep⟩;have hxm:x∈p.aSj:=by rw[hes];simp
 have hb2:(d++x::r).length<=big:=by rw[<-hes];exact hk
 have hsd:aC.szL p.aSj=aC.szL d+x.sz+aC.szL r:=by rw[hes,aC.szL_append];simp[aC.szL];omega
 have hrd:=yQ d;have n1:(kb+9=5)=False:=eq_false (by omega);have n2:(kb+9=9)=False:=eq_false (by omega);have n3:(kb+5=9)=False:=eq_false (by omega);rw[hes];simp only[LZ,L3,n1,n2,n3,h9,go_sem,seval];generalize hO1:Ob.blk [AV.str [],AV.int IntKind.i64 0,AV.int IntKind.i64 0,AV.str [],AV.sl true [] true,AV.bool false,AV.int IntKind.i64 0,AV.sl true [] true,AV.sl true [] true] 9 true true false=O1;have g5:∀o1 o2,((hp.put (kb+9) (hp.next (kb+9)) o1).put (kb+9) (hp.next (kb+9)) o2).get 5=hp.get 5:=by intro o1 o2;rw[aI,if_neg (by omega),aI,if_neg (by omega)]
 have g9:∀o1 o2,((hp.put (kb+9) (hp.next (kb+9)) o1).put (kb+9) (hp.next (kb+9)) o2).get 9=hp.get 9:=by intro o1 o2;rw[aI,if_neg (by omega),aI,if_neg (by omega)]
 refine CM (P:=X3 eo ((hp.put (kb+9) (hp.next (kb+9)) O1).put (kb+9) (hp.next (kb+9)) (Ob.blk
   [AV.str x.op.bs,AV.int IntKind.i64 x.num,AV.int IntKind.i64 x.value,AV.str x.name.bs,
    AV.sl x.at_.nl (List.map Lin.av x.at_.es) x.at_.cl,AV.bool x.dyn,AV.int IntKind.i64 x.check,
    AV.sl x.fn.nl (List.map aP.av x.fn.es) x.fn.cl,AV.sl x.knl (List.map aC.av x.aSj) x.kcl]
   9 true true false)) ((kb+13+1)*65536) (es++jP d++fK x)) (.inr ?_) (B:=(kb+13+1)*65536) rfl ?_ ?_
 refine xH (x:=.pt 9 ew 0) (by simp) (yJ (f:=74) (cs:=[.pt 5 eo 0,.pt 9 ew 0]) (ti:=true) (fz:=false) ?_ (by simp) _);rw[g9];exact h9;rw[<-aC.avc];refine ih x hxm (hks x hxm) _ _ v _ eo ew (by omega) (by omega) (by simp;omega) (by rw[g5];exact h5) (by rw[g9];exact h9) ?_;exact(ho.put (.inr (by omega))).put (.inr (by omega));rintro r' h' ⟨rfl,⟨v2,q5,q6⟩,q7⟩;have q9:h'.get 9=hp.get 9:=by rw[q7 9 (by omega) (by omega) (by omega),g9]
 simp only[aZ hb2,go_sem,seval];refine⟨rfl,v2,q5,by rw[q9];exact h9,by rw[CY,<-lH];exact q6,?_⟩;intro q c1 c2 c3;rw[q7 q c1 c2 (by omega),aI,if_neg (by omega),aI,if_neg (by omega)];exact hkeep q c1 c2 c3
theorem c74(hf:pg.fs 74=some Q3):∀p:aC,p.ok->∀(kb:Nat)(h:Hp)(v:AV)(es:List Int)(eo ew:Nat),65536<=kb->kb % 65536=0->es.length+p.sz<=big ->
  h.get 5=some (eo,.blk [v] 1 false true false)->h.get 9=some (ew,.blk [.fn 74 [.pt 5 eo 0,.pt 9 ew 0]] 1 false true false)->Out h v es ->
  jK pg 74 [p.av,.pt 5 eo 0,.pt 9 ew 0] kb h (X3 eo h kb (es++fK p)):=by
 refine aC.ind' λp ih hp kb h v es eo ew hkb hkb2 hsz h5 h9 hout=>?_;obtain⟨hk,hks⟩:=(aC.ok_iff p).1 hp;have hps:=aC.sz_eq p;refine jK.ofX hf ?_;rw[IQ,<-lH];unfold Q3;have k1:(kb+1=5)=False:=eq_false (by omega);have k2:(kb+1=9)=False:=eq_false (by omega);have k3:(kb+5=5)=False:=eq_false (by omega);simp only[h5,k1,go_sem,seval];cases ho:decide (p.op.bs=[114,101,97,100]);refine Wk ?_;refine SO p hks hk kb eo ew h hkb hkb2 _ (by simp;omega) ih v _ (by rw[aI,if_neg (by omega)];exact h5) (by rw[aI,if_neg (by omega)];exact h9) ?_ ?_ _ rfl;simpa using hout.put (.inr (by omega));intro q q1 q2 q3;rw[aI,if_neg (by omega)]
 ·simp only[h5,k1,go_sem,seval];obtain⟨k,ho1,hk1,hk2⟩:=hout;refine uW (k1:=k) (ho1.mono (by rw[aI,if_neg (by omega)])) (El.ints es) (El.ints [p.value]) (by simp) (by simp[big]at *;omega) (by omega) ?_;intro v' rd pa ho2 hkeep;have m1:(5=kb+5)=False:=eq_false (by omega);have m2:(5=k)=False:=eq_false (by omega);have m3:(9=kb+5)=False:=eq_false (by omega);have m4:(9=k)=False:=eq_false (by omega);have m5:(kb=4)=False:=eq_false (by omega);have m6:(kb+1=k)=False:=eq_false (by omega);have m7:(kb+1=kb+5)=False:=eq_false (by omega);have hg5:=(hkeep 5 (by omega) (by omega)).trans ((by rw[aI,if_neg (by omega)]:_=h.get 5).trans h5);have hg9:=(hkeep 9 (by omega) (by omega)).trans ((by rw[aI,if_neg (by omega)]:_=h.get 9).trans h9);obtain⟨f1,f2,f3⟩:=ho2.one;simp only[hg5,k1,k3,f1,f2,f3,hkeep,m1,m2,m5,m6,m7,bF,go_sem,seval];refine SO p hks hk kb eo ew h hkb hkb2 (es++[p.value]) (by rw[dC,List.length_singleton];omega) ih v' _ ?_ ?_ ?_ ?_ _ ?_
  rotate_right
  rfl;rw[aI,if_pos rfl];rw[aI,if_neg (by omega)];exact hg9;refine Out.put ⟨kb+5,by rw[List.map_append];exact ho2,by omega,by omega⟩ (.inl (by omega));intro q q1 q2 q3;rw[aI,if_neg (Ne.symm q1),hkeep q (by omega) (by intro h;subst h;omega),aI,if_neg (by omega)]
end
end
section
def DZ(x:Int):List Int->List Int
 |[]=>[x]
 |y::r=>if x<=y then x::y::r else y::DZ x r
def lN:List Int->List Int
 |[]=>[]
 |x::r=>DZ x (lN r)
def fS:List Int->List Int
 |[]=>[]
 |[x]=>[x]
 |x::y::r=>if x=y then fS (y::r) else x::fS (y::r)
theorem QA(x:Int):∀l,(DZ x l).length=l.length+1
 |[]=>rfl
 |y::r=>by simp only[DZ];split<;>simp[QA x r]
theorem nT:∀l,(lN l).length=l.length
 |[]=>rfl
 |x::r=>by simp[lN,QA,nT r]
theorem tE:∀l:List Int,(fS l).length<=l.length
 |[]=>by simp[fS]
 |[x]=>by simp[fS]
 |x::y::r=>by have:=tE (y::r);simp only[fS];split<;>simp at * <;> omega
theorem FY(x a:Int):∀l,a∈DZ x l↔a=x\/a∈l
 |[]=>by simp[DZ]
 |y::r=>by simp only[DZ];split;simp;simp[FY x a r];constructor<;>intro h<;>rcases h with h|h|h<;>simp[h]
theorem pX(a:Int):∀l,a∈lN l↔a∈l
 |[]=>by simp[lN]
 |x::r=>by simp[lN,FY,pX a r]
theorem oB(a:Int):∀l:List Int,a∈fS l↔a∈l
 |[]=>by simp[fS]
 |[x]=>by simp[fS]
 |x::y::r=>by have:=oB a (y::r);simp only[fS];split;rename_i h;subst h;simp[this];simp[this]
structure ZM(pg:Pg):Prop where
 sort:∀(kb:Nat)(h:Hp)(k e:Nat)(l:List Int),h.get k=some (e,.blk (l.map aH) 1 false false false)->l.length<=big->wX pg 75 [.rf k e 0 l.length l.length] kb h (.tup []) (h.put k e (.blk ((lN l).map aH) 1 false false false))
 sortN:∀(kb:Nat)(h:Hp)(nl cl:Bool),wX pg 75 [.sl nl [] cl] kb h (.tup []) h
 comp:∀(kb:Nat)(h:Hp)(k e:Nat)(l:List Int),h.get k=some (e,.blk (l.map aH) 1 false false false)->l.length<=big ->
  ∃tl,wX pg 76 [.rf k e 0 l.length l.length] kb h (.rf k e 0 (fS l).length l.length) (h.put k e (.blk ((fS l).map aH++tl) 1 false false false))
 compN:∀(kb:Nat)(h:Hp)(nl cl:Bool),wX pg 76 [.sl nl [] cl] kb h (.sl nl [] cl) h
def cT(p:aC):List Int:=fS (lN (fK p))
theorem iU:∀(l:List Int),cK 1 false (l.map aH)=some (l.map aH)
 |[]=>rfl
 |x::r=>by have ih:=iU r;rw[List.map_cons,cK,ih];rfl
section
variable{pg:Pg}
theorem jK.mono{f:Nat}{vs:List AV}{kb:Nat}{h:Hp}{P P':AV->Hp->Prop}(hr:jK pg f vs kb h P)(hP:∀r h',P r h'->P' r h'):jK pg f vs kb h P':=by obtain⟨r,h',a,b⟩:=hr;exact⟨r,h',a,hP r h' b⟩
theorem c48(S:ZM pg)(hf:pg.fs 48=some V3)(h74:pg.fs 74=some Q3)(p:aC)(hp:p.ok)(hsz:p.sz<=big):bQ pg 48 [p.av] (pA 1 false ((cT p).map aH)):=by
 refine bQ.ofX hf ?_;unfold V3;refine Wk ?_;refine CM (P:=λr h'=>r = .tup []/\∃v',h'.get 5=some (0,.blk [v'] 1 false true false)/\Out h' v' ([]++fK p)) (.inr ?_) (B:=(0+13+1)*65536) rfl ?_ ?_;refine xH (x:=.pt 9 0 0) (by simp) (yJ (f:=74) (cs:=[.pt 5 0 0,.pt 9 0 0]) (ti:=true) (fz:=false) ?_ (by simp) _);simp only[go_sem,seval];rw[<-aC.avc];refine jK.mono (c74 h74 p hp ((0+13+1)*65536) _ (.sl true [] true) [] 0 0 (by omega) (by omega) (by simpa using hsz) ?_ ?_ ?_) ?_;simp only[go_sem,seval];simp only[go_sem,seval];exact⟨65536+5,Own.nil _ _ _ _ _ _ rfl,by omega,by omega⟩;rintro r h' ⟨q1,q2,_⟩;exact⟨q1,q2.elim λv' hv=>⟨v',hv.1,hv.2⟩⟩;rintro r h' ⟨rfl,v,h5,k,ho,hk1,hk2⟩;rw[fW]at ho;have hlen:(fK p).length<=big:=Nat.le_trans (tR p) hsz;simp only[h5,go_sem,seval];rcases ho with ⟨hnil,nl,cl,rfl,hc⟩|⟨e,cs,rfl,hg,hu⟩
 refine qV (.inl rfl) rfl (S.sortN _ _ nl cl) ?_;simp only[h5,go_sem,seval];refine qV (.inl rfl) rfl (S.compN _ _ nl cl) (Wk ?_);have hn:fK p=[]:=by simpa using hnil
 exact .inl ⟨by simp[cT,hn,lN,fS],nl,cl,rfl,hc⟩;rw[iU]at hu;cases hu;have e1:((fK p).map aH).length=(fK p).length:=by simp
 rw[e1];refine qV (.inl rfl) rfl (S.sort _ h' k e (fK p) hg hlen) ?_;have n5:(k=5)=False:=eq_false (by omega);have n5':(5=k)=False:=eq_false (by omega);simp only[h5,n5,go_sem,seval];have hc:=S.comp (jU 0 21 [.rf k e 0 (fK p).length (fK p).length]) (h'.put k e (.blk ((lN (fK p)).map aH) 1 false false false)) k e (lN (fK p)) (by rw[aI,if_pos rfl]) (by rw[nT];exact hlen);rw[nT]at hc;obtain⟨tl,hc⟩:=hc;refine qV (.inl rfl) rfl hc ?_;obtain⟨cs,q1,q2,q3,q4⟩:=eD (El.ints (cT p));rw[iU]at q1;cases q1;have hl:((cT p).map aH).length=(fS (lN (fK p))).length:=by simp[cT]
 have hq:=q4 tl;rw[hl]at hq;have hsn:∀h,eN (snap 64 h) ((cT p).map aH)=some ((cT p).map aH,[]):=λh=>fI 63 h (mC _);simp only[conv,go_sem,seval];simp only[show List.map aH (fS (lN (fK p)))=List.map aH (cT p) from rfl,hq,depth,hsn];exact⟨_,by simp,.inr rfl⟩
end
end
section
def nF:Nat->Nat->List UInt8
 |0,_=>[]
 |f+1,u=>if u<10 then [UInt8.ofNat (48+u)] else nF f (u / 10)++[UInt8.ofNat (48+u % 10)]
def lG(acc:Nat)(l:List UInt8):Nat:=l.foldl (λa c=>a*10+(c.toNat-48)) acc
theorem GU:∀(l:List UInt8)(acc:Nat),acc<=lG acc l
 |[],acc=>aX _
 |c::r,acc=>by have:=GU r (acc*10+(c.toNat-48));simp only[lG,List.foldl_cons]at this ⊢;omega
theorem QW:∀(l:List UInt8)(acc:Nat),l.all bU=true->lG acc l<(acc+1)*10 ^ l.length
 |[],acc,_=>by simp[lG]
 |c::r,acc,h=>by simp only[fV,aF,bU,aR]at h;have:=QW r (acc*10+(c.toNat-48)) (by simpa[bU] using h.2);simp only[lG,List.foldl_cons,List.length_cons,Nat.pow_succ]at this ⊢;refine Nat.lt_of_lt_of_le this ?_;rw[Nat.mul_comm (10 ^ r.length) 10,<-Nat.mul_assoc];exact Nat.mul_le_mul_right _ (by omega)
theorem U0(l:List UInt8)(c:UInt8)(acc:Nat):lG acc (l++[c])=lG acc l*10+(c.toNat-48):=by simp[lG]
theorem zT:∀(l:List UInt8)(acc:Nat),l.all bU=true->lG acc l<1844674407370955162->Lib.parseUint10 acc l = .ok (lG acc l)
 |[],acc,_,_=>rfl
 |c::r,acc,h,hb=>by simp only[fV,aF]at h;have hd:=h.1;simp only[bU,aF,aR]at hd;have h1:=GU r (acc*10+(c.toNat-48));have e:lG acc (c::r)=lG (acc*10+(c.toNat-48)) r:=rfl;rw[e]at hb ⊢;rw[Lib.parseUint10,if_pos hd,if_neg (by omega),if_neg (by omega)];exact zT r _ h.2 hb
theorem JV{l:List UInt8}(h:l.all bU=true)(h0:l≠[])(hh:l.head? ≠ some 48):0<lG 0 l:=by
 cases l with
 |nil=>exact absurd rfl h0
 |cons c r=>simp only[fV,aF,bU,aR]at h;have h1:=GU r (0*10+(c.toNat-48));have h2:c.toNat≠48:=λe=>hh (by simp;exact UInt8.toNat_inj.1 e);have e:lG 0 (c::r)=lG (0*10+(c.toNat-48)) r:=rfl;rw[e];omega
theorem QV:∀(n f:Nat)(l:List UInt8),l.length=n->n<=f->l.all bU=true->l≠[]->l.head? ≠ some 48->nF f (lG 0 l)=l
 |0,f,l,hn,_,_,h0,_=>absurd (iR hn) h0
 |n+1,f,l,hn,hf,hd,h0,hh=>by
  obtain⟨f,rfl⟩:∃g,f=g+1:=⟨f-1,by omega⟩
  obtain⟨l',c,rfl⟩:∃l' c,l=l'++[c]:=by
   rcases mO l with h|⟨l',c,h⟩
   exact absurd h h0;exact⟨l',c,by simpa using h⟩
  simp only[List.all_append,fV,List.all_nil,fF,aF]at hd;have hc:=hd.2;simp only[bU,aF,aR]at hc;have hcc:UInt8.ofNat (48+(c.toNat-48))=c:=by rw[Nat.add_sub_cancel' hc.1];exact UInt8.ofNat_toNat
  rw[U0];by_cases hl:l'=[]
  subst hl;have:lG 0 []=0:=rfl;rw[this,nF,if_pos (by omega)];simp only[Nat.zero_mul,bF,fW];rw[hcc];have hh':l'.head? ≠ some 48:=by
   cases l' with
   |nil=>exact absurd rfl hl
   |cons x r=>simpa using hh
  have hp:=JV hd.1 hl hh';rw[nF,if_neg (by omega)];have e1:(lG 0 l'*10+(c.toNat-48)) / 10=lG 0 l':=by omega
  have e2:(lG 0 l'*10+(c.toNat-48)) % 10=c.toNat-48:=by omega
  rw[e1,e2,hcc,QV n f l' (by simpa using hn) (by omega) hd.1 hl hh']
theorem GT:∀(f u:Nat),0<u->u<10 ^ f->(nF f u).all bU=true/\nF f u≠[]/\(nF f u).head? ≠ some 48
 |0,u,h,hu=>by simp at hu;omega
 |f+1,u,h,hu=>by
  have hof:∀n:Nat,n<10->(UInt8.ofNat (48+n)).toNat=48+n:=λn hn=>by simp;omega
  rw[nF];split;rename_i h1;refine⟨by simp[bU,hof u h1];omega,by simp,?_⟩;intro he;simp only[List.head?_cons,cF]at he;have:=congrArg UInt8.toNat he;rw[hof u h1]at this;simp at this;omega;obtain⟨a,b,c⟩:=GT f (u / 10) (by omega) (by rw[Nat.pow_succ]at hu;omega);refine⟨?_,by simp,?_⟩;rw[List.all_append,a];simp[bU,hof (u % 10) (by omega)];omega;cases hx:nF f (u / 10) with
  |nil=>exact absurd hx b
  |cons x r=>rw[hx]at c;simpa using c
def lV(t:List UInt8):Bool:=
 match Lib.atoiAll t with
 |.ok v=>decide (0<v)&&decide ((t.length:Int)+1<=10)&&decide (nF 20 v.toNat=t)
 |_=>false
theorem SR(t:List UInt8):lV t=(decide (2<=t.length+1)&&decide (t.length+1<=10) && !decide (t.head?=some 48)&&t.all bU):=by
 cases hr:(decide (2<=t.length+1)&&decide (t.length+1<=10) && !decide (t.head?=some 48)&&t.all bU);cases ha:lV t;rfl;exfalso;simp only[lV]at ha;split at ha;rename_i v hv;simp only[aF,aR]at ha;obtain⟨⟨h1,h2⟩,h3⟩:=ha;obtain⟨hb1,hb2⟩:v.toNat<10 ^ 20/\0<v.toNat:=by
  have hv2:v.toNat<18446744073709551616:=by
   cases t with
   |nil=>simp[Lib.atoiAll]at hv
   |cons c r=>
    simp only[Lib.atoiAll]at hv;split at hv;cases hv;cases hv;rename_i u hu;have:=Lib.parseMag_lt hu;split at hv;cases hv;split at hv;cases hv;injection hv with hv
    split at hv<;>omega
  exact⟨by omega,by omega⟩
 obtain⟨a,b,c⟩:=GT 20 v.toNat hb2 hb1;rw[h3]at a b c;have hlen:0<t.length:=List.length_pos_iff.2 b;simp[a,c]at hr;omega;cases ha;simp only[aF,eA,aR,eJ]at hr;obtain⟨⟨⟨h1,h2⟩,h3⟩,h4⟩:=hr;have h0:t≠[]:=by rintro rfl;simp at h1
 have hlt:=QW t 0 h4;have hpow:(10:Nat) ^ t.length<=10 ^ 9:=Nat.pow_le_pow_right (by decide) (by omega);have hsm:lG 0 t<1844674407370955162:=by
  have:(10:Nat) ^ 9=1000000000:=by decide
  omega
 have hp:=zT t 0 h4 hsm;have hpos:=JV h4 h0 h3;have hv:Lib.atoiAll t = .ok ((lG 0 t:Nat):Int):=by
  cases t with
  |nil=>exact absurd rfl h0
  |cons c r=>
   have hc:bU c=true:=by simp only[fV,aF]at h4;exact h4.1
   simp only[bU,aF,aR]at hc;simp only[Lib.atoiAll];rw[if_neg (by omega)];simp only[Lib.parseMag];rw[if_neg (by simp),hp];simp only;rw[if_neg (by omega),if_neg (by omega),if_neg (by omega)]
 have hd:=QV t.length 20 t rfl (by omega) h4 h0 h3;simp only[lV,hv,dU,hd,decide_true,fF,aF,aR];omega
end
section
def zG(args:List AV)(_:Nat)(h:Hp):Option (AV×Hp):=
 match args with
 |[.str s]=>
  if s.length<=16777216 then
   match Lib.atoiAll s with
   |.ok v=>some (.tup [.int .i64 v,.nili],h)
   |.range=>some (.tup [.int .i64 (Lib.atoiSat s),.ifc .top],h)
   |_=>some (.tup [.int .i64 0,.ifc .top],h)
  else none
 |_=>none
def wK(args:List AV)(_:Nat)(h:Hp):Option (AV×Hp):=
 match args with
 |[.int .i64 n]=>if 0<=n/\n<=9223372036854775807 then some (.str (nF 20 n.toNat),h) else none
 |_=>none
def uD:List AV->Option (List Int)
 |[]=>some []
 |.int .i64 n::r=>(uD r).map (n :: ·)
 |_=>none
def B3(args:List AV)(_:Nat)(h:Hp):Option (AV×Hp):=
 match args with
 |[.sl _ [] _]=>some (.tup [],h)
 |[.rf k e off len _]=>
  match h.get k with
  |some (e',.blk cs 1 false ti false)=>
   if e'=e/\off+len<=cs.length/\len<=16777216 then
    match uD ((cs.drop off).take len) with
    |some zs=>some (.tup [],h.put k e (.blk (fN cs off ((lN zs).map aH)) 1 false ti false))
    |none=>none
   else none
  |_=>none
 |_=>none
def B4(args:List AV)(_:Nat)(h:Hp):Option (AV×Hp):=
 match args with
 |[.sl nl [] cl]=>some (.sl nl [] cl,h)
 |[.rf k e off len cap]=>
  match h.get k with
  |some (e',.blk cs 1 false ti false)=>
   if e'=e/\off+len<=cs.length/\len<=16777216 then
    match uD ((cs.drop off).take len) with
    |some zs=>some (.rf k e off (fS zs).length cap,h.put k e (.blk (fN cs off ((fS zs++List.replicate (zs.length-(fS zs).length) 0).map aH)) 1 false ti false))
    |none=>none
   else none
  |_=>none
 |_=>none
theorem zA:∀l:List Int,uD (l.map aH)=some l
 |[]=>rfl
 |x::r=>by simp[uD,aH,zA r]
structure Ora(pg:Pg):Prop where
 f92:pg.fs 92=none
 f93:pg.fs 93=none
 f75:pg.fs 75=none
 f76:pg.fs 76=none
 atoi:pg.ex 92=some zG
 itoa:pg.ex 93=some wK
 sort:pg.ex 75=some B3
 comp:pg.ex 76=some B4
section
variable{pg:Pg}
theorem xC{f:Nat}{g:List AV->Nat->Hp->Option (AV×Hp)}(hf:pg.fs f=none)(hx:pg.ex f=some g){vs:List AV}{kb:Nat}{h h':Hp}{r:AV}(hg:g vs kb h=some (r,h')):wX pg f vs kb h r h':=
 ⟨1,by simp only[cM,hf,hx,hg]⟩
theorem BI{f:Nat}{g:List AV->Nat->Hp->Option (AV×Hp)}(hf:pg.fs f=none)(hx:pg.ex f=some g){vs:List AV}{r:AV}(hg:g vs 0 []=some (r,[]))(hr:r.tree=true):Ret pg f vs r:=
 ⟨1,by simp only[dS,cM,hf,hx,hg,B8 hr]⟩
theorem HI(A:Ora pg):ZM pg where
 sort:=by
  intro kb h k e l hg hb;refine xC A.f75 A.sort ?_;simp only[big]at hb;simp only[B3,hg,aM,bF,List.drop_zero];rw[if_pos ⟨trivial,aX _,hb⟩,List.take_of_length_le (by simp),zA];have hd:List.drop l.length (l.map aH)=[]:=by rw[List.drop_eq_nil_iff];simp
  simp[fN,nT,hd]
 sortN:=by intro kb h nl cl;exact xC A.f75 A.sort rfl
 comp:=by
  intro kb h k e l hg hb;refine⟨(List.replicate (l.length-(fS l).length) 0).map aH,xC A.f76 A.comp ?_⟩;simp only[big]at hb;have hc:=tE l;simp only[B4,hg,aM,bF,List.drop_zero];rw[if_pos ⟨trivial,aX _,hb⟩,List.take_of_length_le (by simp),zA];simp only[fN,List.take_zero,fW,bF];have hd:List.drop ((fS l++List.replicate (l.length-(fS l).length) 0).map aH).length (l.map aH)=[]:=by rw[List.drop_eq_nil_iff];simp;omega
  rw[hd,List.append_nil,List.map_append]
 compN:=by intro kb h nl cl;exact xC A.f76 A.comp rfl
theorem c108(A:Ora pg)(hf:pg.fs 108=some x6)(i:Nat)(hi:i<10):Ret pg 108 [.int .i64 i] (.str (v7 i)):=by
 have h93:Ret pg 93 [.int .i64 (i:Int)] (.str [UInt8.ofNat (48+i)]):=by refine BI A.f93 A.itoa ?_ rfl;simp only[wK];rw[if_pos (by omega)];simp only[dU,nF];rw[if_pos hi]
 have h0:decide ((i:Int)<0)=false:=by simp
 refine Ret.ofX hf ?_;unfold x6;simp only[h0,go_sem,seval];refine aB h93 (Wk ?_);rfl
def nm:Bool->List UInt8->Bool
 |_,[]=>true
 | fst,c::r=>(iG c||(!fst&&bU c))&&nm false r
theorem aBU:∀r,nm false r=r.all (λx=>iG x||bU x)
 |[]=>rfl
 |c::r=>by simp[nm,aBU r]
theorem PW{s:List UInt8}(h:s.head? ≠ some 95):iQ s=(nm true s&&(!decide (s=[])&&decide ((s.length:Int)<=30))):=by
 cases s with
 |nil=>rfl
 |cons c t=>
  have hc:c≠95:=λe=>h (by simp[e]);simp only[iQ,if_neg hc,nm,aBU];have:decide ((c::t).length<=30)=decide (((c::t).length:Int)<=30):=by rw[eH];omega
  rw[this];cases iG c<;>cases (t.all λx=>iG x||bU x)<;>cases decide (((c::t).length:Int)<=30)<;>rfl
theorem PV(t:List UInt8):iQ (95::t)=lV t:=by
 rw[SR];simp only[iQ,aN,List.length_cons];cases h:decide (t.length+1<=10);simp;have:t.length+1<=30:=by simp at h;omega
 simp[this]
set_option maxHeartbeats 8000000 in
theorem c57(A:Ora pg)(hf:pg.fs 57=some aAL)(h91:pg.fs 91=some U7)(h126:pg.fs 126=some DN)(s:Str):Ret pg 57 [.str s.bs] (.bool (iQ s.bs)):=by
 obtain⟨s,hb⟩:=s;have a91:=c91 h91 h126 s [95];have hb':s.length<=16777216:=by simpa[big] using hb
 refine Ret.ofX hf ?_;unfold aAL;refine Wk ?_;refine aB a91 ?_;cases hu:(decide ([(95:UInt8)].length<=s.length)&&decide (s.take [(95:UInt8)].length=[95]))
 case true=>
  obtain⟨t,rfl⟩:∃t,s=95::t:=by
   cases s with
   |nil=>simp at hu
   |cons c t=>simp at hu;exact⟨t,by rw[hu]⟩
  have hlen:(((95:UInt8)::t).length:Int)=(t.length:Int)+1:=by simp
  have hlen2:((t.length+1:Nat):Int)=(t.length:Int)+1:=by simp
  have hs1:∀h,wJ true false [.str (95::t),.int .i64 1]=some (.str t,.pat [] [])/\h=h:=fun(h:Hp)=>by refine⟨?_,rfl⟩;simp only[wJ,kX,bR,aL,aN,Option.getD_none,Option.getD_some];rw[if_pos ⟨by omega,by simp;omega,by omega⟩];simp[val]
  have hs2:=(hs1 []).1;have hn:iQ (95::t)=lV t:=PV t;have htl:t.length<=16777216:=by simp at hb';omega
  have hex:zG [.str t] 0 []=(match Lib.atoiAll t with|.ok v=>some (.tup [.int .i64 v,.nili],[])|.range=>some (.tup [.int .i64 (Lib.atoiSat t),.ifc .top],[])|_=>some (.tup [.int .i64 0,.ifc .top],[])):=by simp only[zG];rw[if_pos htl]
  rw[hn];simp only[↓hs2,go_sem,seval];cases hat:Lib.atoiAll t
  case range=>rw[hat]at hex;refine aB (BI A.f92 A.atoi hex (by simp[AV.tree,treeL])) (Wk ?_);refine aY ?_;simp only[lV,hat]
  case ok v=>
   rw[hat]at hex;refine aB (BI A.f92 A.atoi hex (by simp[AV.tree,treeL])) ?_;have hres:lV t=(decide (0<v)&&decide ((t.length:Int)+1<=10)&&decide (nF 20 v.toNat=t)):=by simp only[lV,hat]
   rw[hres];cases b1:decide (0<v)
   case false=>
    simp only[b1,go_sem,seval]
    first|(refine aY ?_;rfl)|kernel_rfl
   have hv0:0<v:=by simpa using b1
   have hvb:=Lib.atoiAll_bounds hat;have hit:Ret pg 93 [.int .i64 v] (.str (nF 20 v.toNat)):=by refine BI A.f93 A.itoa ?_ rfl;simp only[wK];rw[if_pos (by omega)]
   cases b2:decide ((t.length:Int)+1<=10)
   case false=>
    simp only[b1,hlen,hlen2,b2,go_sem,seval]
    first|(refine aY ?_;rfl)|kernel_rfl
   simp only[b1,hlen,hlen2,b2,go_sem,seval];refine aB hit ?_;simp only[↓hs2,go_sem,seval]
   first|(refine aY ?_;rfl)|kernel_rfl
  rw[hat]at hex;refine aB (BI A.f92 A.atoi hex (by simp[AV.tree,treeL])) (Wk ?_);refine aY ?_;simp only[lV,hat]
 case false=>
  have hh:s.head? ≠ some 95:=by
   intro he;cases s with
   |nil=>simp at he
   |cons c t=>simp at he;subst he;simp at hu
  rw[PW hh];refine Wk ?_;refine fJ s (λd e=>fP e (some 36) (.int .i64 d.length)) (λd r hp=>nm true s=nm d.isEmpty r) rfl ?_ ?_ ?_;rfl;rintro hp hI;have:nm true s=true:=by rw[hI];simp[nm]
  rw[this];cases c1:decide (s=[]);simp only[MV,MU,c1,go_sem,seval];simp only[MV,MU,c1,go_sem,seval]
  ·rintro d c r hp hes hI;rw[hes]at hb hI;have hw:=aZ hb;rw[hes];have hnm:nm true (d++c::r)=((iG c||(!d.isEmpty&&bU c))&&nm false r):=hI;have hde:decide ((d.length:Int)=0)=d.isEmpty:=by
    cases d with
    |nil=>simp
    |cons x r=>simp;omega
   have happ:(d++[c]).isEmpty=false:=by simp
   have hlet:iG c=(!(decide ((c.toNat:Int)<97)) && !(decide ((122:Int)<c.toNat))):=by simp only[iG];by_cases h1:97<=c.toNat<;>by_cases h2:c.toNat<=122<;>simp[h1,h2]<;>omega
   have hdig:bU c=(!(decide ((c.toNat:Int)<48)) && !(decide ((57:Int)<c.toNat))):=by simp only[bU];by_cases h1:48<=c.toNat<;>by_cases h2:c.toNat<=57<;>simp[h1,h2]<;>omega
   rw[hlet,hdig]at hnm;clear hlet hdig hI hes a91 hu hh hb';cases e1:decide ((c.toNat:Int)<97)<;>cases e2:decide ((122:Int)<c.toNat)<;>cases e3:d.isEmpty<;>cases e4:decide ((c.toNat:Int)<48)<;>cases e5:decide ((57:Int)<c.toNat)
   all_goals (rw[e1,e2,e3,e4,e5]at hnm)
   all_goals (rw[e3]at hde)
   all_goals (simp only[Bool.not_true,Bool.not_false,fF,gD,Bool.or_true,Bool.or_false,cE,d9]at hnm)
   all_goals (rw[hnm])
   all_goals (simp only[MV,MU,e1,e2,hde,e4,e5,hw,happ,go_sem,seval])
end
end
section
open Go.Sort
theorem JF(x:Int):∀l,(DZ x l).Perm (x::l)
 |[]=>List.Perm.refl _
 |y::r=>by simp only[DZ];split;exact List.Perm.refl _;exact((JF x r).cons y).trans (List.Perm.swap x y r)
theorem FD:∀l,(lN l).Perm l
 |[]=>List.Perm.refl _
 |x::r=>(JF x _).trans ((FD r).cons x)
theorem C7(x:Int):∀l:List Int,l.Pairwise (· <= ·)->(DZ x l).Pairwise (· <= ·)
 |[],_=>by simp[DZ]
 |y::r,h=>by simp only[DZ];rw[List.pairwise_cons]at h;split;rename_i hxy;rw[List.pairwise_cons];refine⟨?_,List.pairwise_cons.2 h⟩;intro a ha;rcases dA.1 ha with rfl|ha;exact hxy;exact Int.le_trans hxy (h.1 a ha);rename_i hxy;rw[List.pairwise_cons];refine⟨?_,C7 x r h.2⟩;intro a ha;rcases (FY x a r).1 ha with rfl|ha;omega;exact h.1 a ha
theorem tN:∀l:List Int,(lN l).Pairwise (· <= ·)
 |[]=>List.Pairwise.nil
 |x::r=>C7 x _ (tN r)
theorem xW:∀{a b:List Int},a.Perm b->a.Pairwise (· <= ·)->b.Pairwise (· <= ·)->a=b
 |[],b,h,_,_=>(List.Perm.nil_eq h)
 |x::r,[],h,_,_=>absurd h.symm.nil_eq (by simp)
 |x::r,y::s,h,ha,hb=>by
  rw[List.pairwise_cons]at ha hb;have h1:x<=y:=by have:y∈x::r:=h.symm.subset (by simp);rcases dA.1 this with rfl|hy;exact Int.le_refl _;exact ha.1 y hy
  have h2:y<=x:=by have:x∈y::s:=h.subset (by simp);rcases dA.1 this with rfl|hx;exact Int.le_refl _;exact hb.1 x hx
  obtain rfl:x=y:=by omega
  rw[xW (List.Perm.cons_inv h) ha.2 hb.2]
theorem aBo(l:List Int):(l.mergeSort λx y=>decide (x<=y))=lN l:=by refine xW ((List.mergeSort_perm l _).trans (FD l).symm) ?_ (tN l);have:=List.pairwise_mergeSort (le:=λx y:Int=>decide (x<=y)) (by intro a b c h1 h2;simp at *;omega) (by intro a b;simp;omega) l;exact this.imp (by intro a b h;simpa using h)
theorem GV(x:Int):∀l:List Int,fS (l++[x])=fS l++(if l.getLast?=some x then [] else [x])
 |[]=>by simp[fS]
 |[a]=>by simp only[List.cons_append,fW,fS,List.getLast?_singleton,cF];split<;>simp[*]
 |a::b::r=>by have ih:=GV x (b::r);simp only[List.cons_append]at ih ⊢;simp only[fS,ih,List.getLast?_cons_cons];split<;>simp
theorem AK(zs:List Int):∀m,m<=zs.length->Lib.compactUpTo zs.toArray m=fS (zs.take m)
 |0,_=>by simp[Lib.compactUpTo,fS]
 |m+1,h=>by
  have ih:=AK zs m (by omega);have hm:zs.toArray[m]! = zs[m]'(by omega):=by rw[getElem!_pos _ _ (by simp;omega)];simp
  rw[List.take_succ_eq_append_getElem (by omega),GV,<-ih];simp only[Lib.compactUpTo,List.range_succ,List.filter_append,List.map_append];congr 1;cases m with
  |zero=>simp[Lib.keeps,hm];rw[aW (by omega)];rfl
  |succ k=>
   have hk:zs.toArray[k]! = zs[k]'(by omega):=by rw[getElem!_pos _ _ (by simp;omega)];simp
   have hl:(zs.take (k+1)).getLast?=some (zs[k]'(by omega)):=by rw[List.take_succ_eq_append_getElem (by omega)];exact List.getLast?_concat
   simp only[List.filter_cons,List.filter_nil,Lib.keeps,hm,hl];by_cases he:zs[k+1]'(by omega)=zs[k]'(by omega);simp[hk,he];have he':¬zs[k]'(by omega)=zs[k+1]'(by omega):=λh=>he h.symm;simp[hk,he,he',hm];rw[aW (by omega)];rfl
theorem U3(zs:List Int):Lib.compact zs=fS zs:=by rw[Lib.compact,AK zs zs.length (aX _),List.take_length]
theorem wN:∀(f u:Nat),u<10 ^ f->Lib.decDigits u=nF f u\/f=0
 |0,u,_ => .inr rfl
 |f+1,u,h=>by left;rw[nF,Lib.decDigits];by_cases h1:u<10;rw[dif_pos h1,if_pos h1];rw[dif_neg h1,if_neg h1];rcases wN f (u / 10) (by rw[Nat.pow_succ]at h;omega) with h2|h2;rw[h2];subst h2;simp at h;omega
theorem aAe{n:Int}(h0:0<=n)(h1:n<=9223372036854775807):Lib.itoa n=nF 20 n.toNat:=by rw[Lib.itoa,if_neg (by omega)];rcases wN 20 n.toNat (by omega) with h|h;exact h;cases h
section
variable{P:Program}{num:Nm}{gl:Nat->Option AV}{bE:Nat->Nat}{Fb:Nat->Prop}{B0:Nat}{ρ : Rho}{w w':World}{O:Nat->Prop}{h:Hp}
theorem p9(H:HpR num Fb B0 ρ w O h)(hb:RowKit.Below w.heap.size w w'):Evo ρ w O ρ w' O/\HpR num Fb B0 ρ w' O h:=by
 have ev:Evo ρ w O ρ w' O:=⟨hb.os,hb.tape,hb.output,hb.size,λb h1 _=>hb.block b h1,λ_ _ h=>h,λ_ _ _ h=>h⟩
 exact⟨ev,H.same ev (λb hO=>hb.block b (H.own b hO).2)⟩
def H5 (P:Program) (f:Nat):Prop:=∃fn,P.funcs[f]?=some fn/\fn.body.isSome=true/\fn.name ≠ "runtime.NumGoroutine"
theorem nK{R:AV->Value->Prop}{x:AV}{vs:List Value}(h:bA R [x] vs):∃c,vs=[c]/\R x c:=by
 cases h with
 |cons h1 h2=>cases h2;exact⟨_,rfl,h1⟩
theorem aJC(hfn:H5 P (num 93))(g:Nat)(hg:gl g=some (.agg (Lib.pow10Tab.map λn => .int .u64 n)))
  (hc:∀(n:Int),0<=n->n<=9223372036854775807->∀w:World,(∃T fr,w.heap[bE g]?=some (.cells (Lib.pow10Tab.map λz=>Value.int .u64 z).toArray T fr)) ->
   Calls P (num 93) #[.int .i64 n] w λe w'=>e = .returned (.string ⟨(Lib.itoa n).toArray⟩)/\RowKit.Below w.heap.size w w') :
  j8 P num gl bE ⟨λf' avs kb h=>if f'=93 then wK avs kb h else none,λ_ _ _ _=>none⟩:=by
 intro f avs kb h r h' hr;dsimp only at hr;split at hr
 case isFalse=>cases hr
 rename_i hf;subst hf;refine⟨hfn,?_⟩;intro Fb B0 ρ O w vs H hG hv;unfold wK at hr;split at hr
 case h_2=>cases hr
 rename_i n;split at hr
 case isFalse=>cases hr
 rename_i hn;cases hr;obtain⟨c,rfl,hrv⟩:=nK hv;cases hrv
 have htab:∃T fr,w.heap[bE g]?=some (.cells (Lib.pow10Tab.map λz=>Value.int .u64 z).toArray T fr):=by
  obtain⟨⟨_,c,T,fr,h1,h2⟩,hp⟩:=hG g _ hg;refine⟨T,fr,?_⟩;rw[h1];have hsz:c.size=Lib.pow10Tab.length:=by rw[h2];simp[AV.cells]
  have hce:c=(Lib.pow10Tab.map λz=>Value.int .u64 z).toArray:=by
   apply Array.ext;simp[hsz];intro i hi1 hi2;obtain⟨b,off,m,hx,hF,hb,hm,hr⟩:=hp.of_fp;cases hx;have hil:i<Lib.pow10Tab.length:=by omega
   have h3:=hm i (by simp only[AV.cells,aM];exact hil);have h4:=hr i (.int .u64 (Lib.pow10Tab[i]'hil)) (by simp only[AV.cells,fX,aW hil];rfl);rw[bF]at h3;simp only[World.cell?,h1,Option.isSome_none,bR,aL,Array.getElem?_eq_getElem hi1,cF]at h3;rw[<-h3]at h4;have h5:=h4.of_int;rw[h5];simp
  rw[hce]
 refine(hc n hn.1 hn.2 w htab).mono ?_;rintro e w' ⟨rfl,hb⟩;obtain⟨ev,H'⟩:=p9 H hb;refine⟨_,ρ,O,rfl,ev,H',?_⟩;rw[aAe hn.1 hn.2];exact .str _
theorem aKe(hfn:H5 P (num 92))(g1 g2:Nat)(hg1:gl g1=some (.ifc .top))(hg2:gl g2=some (.ifc .top))
  (hok:∀(s:List UInt8),s.length<=16777216->∀v,Lib.atoiAll s = .ok v->∀w:World,Calls P (num 92) #[.string ⟨s.toArray⟩] w λe w'=>e = .returned (.tuple #[.int .i64 v,.nilIface])/\RowKit.Below w.heap.size w w')
  (hsy:∀(s:List UInt8),s.length<=16777216->(∀v,Lib.atoiAll s ≠ .ok v)->Lib.atoiAll s ≠ .range->∀(w:World)(te:TypeId)(pe:Value),w.cell? ⟨bE g1,0,none⟩=some (.iface te pe) ->
   Calls P (num 92) #[.string ⟨s.toArray⟩] w λe w'=>∃t p,e = .returned (.tuple #[.int .i64 0,.iface t p])/\RowKit.Below w.heap.size w w')
  (hra:∀(s:List UInt8),s.length<=16777216->Lib.atoiAll s = .range->∀(w:World)(te:TypeId)(pe:Value),w.cell? ⟨bE g2,0,none⟩=some (.iface te pe) ->
   Calls P (num 92) #[.string ⟨s.toArray⟩] w λe w'=>∃t p,e = .returned (.tuple #[.int .i64 (Lib.atoiSat s),.iface t p])/\RowKit.Below w.heap.size w w') :
  j8 P num gl bE ⟨λf' avs kb h=>if f'=92 then zG avs kb h else none,λ_ _ _ _=>none⟩:=by
 intro f avs kb h r h' hr;dsimp only at hr;split at hr
 case isFalse=>cases hr
 rename_i hf;subst hf;refine⟨hfn,?_⟩;intro Fb B0 ρ O w vs H hG hv;have hcell:∀g,gl g=some (.ifc .top)->∃te pe,w.cell? ⟨bE g,0,none⟩=some (.iface te pe):=by
  intro g hg;obtain⟨_,hp⟩:=hG g _ hg;cases hp with
  |fp _ _ _ c hF hb hm hr=>have h1:=hm 0 (by simp[AV.cells]);have h2:=hr 0 (.ifc .top) (by simp[AV.cells]);simp only[Nat.add_zero]at h1;rw[h1];generalize c 0=ci at h2 ⊢;cases h2;exact⟨_,_,rfl⟩
 unfold zG at hr;split at hr
 case h_2=>cases hr
 rename_i s;split at hr
 case isFalse=>cases hr
 rename_i hs;obtain⟨c,rfl,hrv⟩:=nK hv;cases hrv;split at hr;rename_i v ha;cases hr;refine(hok s hs v ha w).mono ?_;rintro e w' ⟨rfl,hb⟩;obtain⟨ev,H'⟩:=p9 H hb;refine⟨_,ρ,O,rfl,ev,H',?_⟩;refine .tup _ _ rfl ?_;intro i x y hx hy
 match i,hx,hy with
 |0,hx,hy=>simp at hx hy;subst hx;subst hy;exact .int _ _
 |1,hx,hy=>simp at hx hy;subst hx;subst hy;exact .nili
 |i+2,hx,hy=>simp at hx
 rename_i ha;cases hr;obtain⟨te,pe,hce⟩:=hcell g2 hg2;refine(hra s hs ha w te pe hce).mono ?_;rintro e w' ⟨t,p,rfl,hb⟩;obtain⟨ev,H'⟩:=p9 H hb;refine⟨_,ρ,O,rfl,ev,H',?_⟩;refine .tup _ _ rfl ?_;intro i x y hx hy
 match i,hx,hy with
 |0,hx,hy=>simp at hx hy;subst hx;subst hy;exact .int _ _
 |1,hx,hy=>simp at hx hy;subst hx;subst hy;exact .ifc _ _ _ (.top _)
 |i+2,hx,hy=>simp at hx
 rename_i ha1 ha2;cases hr;obtain⟨te,pe,hce⟩:=hcell g1 hg1;refine(hsy s hs (λv e=>ha1 v e) (λe=>ha2 e) w te pe hce).mono ?_;rintro e w' ⟨t,p,rfl,hb⟩;obtain⟨ev,H'⟩:=p9 H hb;refine⟨_,ρ,O,rfl,ev,H',?_⟩;refine .tup _ _ rfl ?_;intro i x y hx hy
 match i,hx,hy with
 |0,hx,hy=>simp at hx hy;subst hx;subst hy;exact .int _ _
 |1,hx,hy=>simp at hx hy;subst hx;subst hy;exact .ifc _ _ _ (.top _)
 |i+2,hx,hy=>simp at hx
theorem BV:∀{cs:List AV}{zs:List Int},uD cs=some zs->cs=zs.map aH
 |[],zs,h=>by simp[uD]at h;subst h;rfl
 |x::r,zs,h=>by
  cases x with
  |int k n=>
   cases k<;>simp only[uD]at h
   case i64=>simp only[tJ]at h;obtain⟨l,h1,rfl⟩:=h;rw[BV h1];rfl
   all_goals cases h
  |_=>simp[uD]at h
end
end
section
open Go.Sort
section
variable{P:Program}{num:Nm}{gl:Nat->Option AV}{bE:Nat->Nat}{Fb:Nat->Prop}{B0:Nat}{ρ : Rho}{w w':World}{O:Nat->Prop}{h:Hp}
theorem Rv.int_eq{F:Nat->Prop}{n:Int}{y:Value}(h:Rv num ρ w F (aH n) y):y = .int .i64 n:=by have h':Rv num ρ w F (.int .i64 n) y:=h;cases h';rfl
theorem FL{k e off len:Nat}{cs:List AV}{esz:Nat}{ag ti fz:Bool}{L:Loc}{zs:List Int}(H:HpR num Fb B0 ρ w O h)(hg:h.get k=some (e,.blk cs esz ag ti fz))(hL : ρ k e=some L)
  (hz:(cs.drop off).take len=zs.map aH) (hl:off+len<=cs.length):Holds (Value.int .i64) w L.b (L.base+off) zs.toArray/\L.b<w.heap.size/\zs.length=len:=by
 obtain⟨L0,c,T,h1,h2,h3,h4,h5,h6,h7,h8,h9,h10⟩:=H.blk _ _ _ _ _ _ _ hg;rw[h1]at hL;cases hL;have hzl:zs.length=len:=by have:=congrArg List.length hz;simp at this;omega
 refine⟨?_,?_,hzl⟩;intro j hj;have hj':j<zs.length:=by simpa using hj
 have hx:cs[off+j]?=some (aH (zs[j]'hj')):=by have:=congrArg (λl:List AV=>l[j]?) hz;simp only[fX,List.getElem?_take,List.getElem?_drop,aW hj',Option.map_some]at this;rw[if_pos (by omega)]at this;exact this
 obtain⟨y,hy,hr⟩:=h7 _ _ hx;have hy2:=hr.int_eq;subst hy2;refine⟨?_,?_⟩;simp only[World.cell?,h4,Option.isSome_none,bR,aL];rw[eX,hy,getElem!_pos zs.toArray j hj];simp;simp[World.frozen?,h4];by_cases hlt:L.b<w.heap.size;exact hlt;simp[Array.getElem?_eq_none (Nat.le_of_not_lt hlt)]at h4
theorem TJ{k e off len n:Nat}{cs:List AV}{esz:Nat}{ag ti:Bool}{L:Loc}{zs:List Int}(H:HpR num Fb B0 ρ w O h)(hg:h.get k=some (e,.blk cs esz ag ti false))(hL : ρ k e=some L)
  (hz:zs.length=len) (hl:off+len<=cs.length) :
  Evo ρ w O ρ (putRow (Value.int .i64) (Sort.ahead w n) L.b (L.base+off) zs.toArray) O/\HpR num Fb B0 ρ (putRow (Value.int .i64) (Sort.ahead w n) L.b (L.base+off) zs.toArray) O (h.put k e (.blk (fN cs off (zs.map aH)) esz ag ti false)):=by
 obtain⟨L0,c,T,h1,h2,h3,h4,h5,h6,h7,h8,h9,h10⟩:=H.blk _ _ _ _ _ _ _ hg;rw[h1]at hL;cases hL
 have hget:∀i,(putCells (Value.int .i64) (L.base+off) zs.toArray c)[i]?=(c[i]?).map λx=>if L.base+off<=i/\i<L.base+off+zs.length then .int .i64 zs.toArray[i-(L.base+off)]! else x:=by intro i;simp only[putCells,Array.getElem?_mapIdx,List.size_toArray]
 refine H.write (c':=putCells (Value.int .i64) (L.base+off) zs.toArray c) (T:=T) hg h1 ⟨rfl,rfl,rfl,?_,?_,?_⟩ ?_ ?_ ?_;simp[putRow,mapBlock,Sort.ahead];simp only[putRow,mapBlock,Sort.ahead,Array.getElem?_modify,aN,h4,Option.map_some,onCells];intro b hb;simp only[putRow,mapBlock,Sort.ahead,Array.getElem?_modify];rw[if_neg (λh=>hb h.symm)];simp only[putCells,Array.size_mapIdx];exact h5;simp only[fN,dC,List.length_take,List.length_drop,aM];omega;intro i x hx;rw[hget];simp only[fN,lH]at hx;by_cases hi1:i<off;rw[List.getElem?_append_left (by simp;omega),List.getElem?_take,if_pos hi1]at hx;obtain⟨y,hy,hr⟩:=h7 _ _ hx;refine⟨y,?_,hr⟩;rw[hy,Option.map_some,if_neg (by omega)];rw[yA (by simp;omega)]at hx;have htk:(cs.take off).length=off:=by simp;omega
 rw[htk]at hx;by_cases hi2:i<off+len;rw[List.getElem?_append_left (by simp;omega),fX]at hx;have hlt:i-off<zs.length:=by omega
 rw[aW hlt,Option.map_some]at hx;cases hx;have hcs:i<cs.length:=by omega
 obtain⟨y,hy,_⟩:=h7 i _ (aW hcs);refine⟨_,by rw[hy,Option.map_some,if_pos (by omega)],?_⟩;have e1:L.base+i-(L.base+off)=i-off:=by omega
 rw[e1,getElem!_pos zs.toArray (i-off) (by simpa using hlt)];simp only[List.getElem_toArray];exact .int _ _;rw[yA (by simp;omega),List.getElem?_drop]at hx;have e2:off+(zs.map aH).length+(i-off-(zs.map aH).length)=i:=by simp;omega
 rw[e2]at hx;obtain⟨y,hy,hr⟩:=h7 _ _ hx;refine⟨y,?_,hr⟩;rw[hy,Option.map_some,if_neg (by omega)]
theorem F7(w:World)(os:Array Obj):RowKit.Below w.heap.size w (grow w os) where
 os:=rfl
 tape:=rfl
 output:=rfl
 size:=by simp[grow]
 block:=λk hk=>by simp[grow,Array.getElem?_append_left hk]
theorem aIH(hfn:H5 P (num 75))
  (hc:∀(blk off cap:Nat)(zs:List Int)(w:World),Holds (Value.int .i64) w blk off zs.toArray->blk<w.heap.size->zs.length<=16777216 ->
   Calls P (num 75) #[.slice (some ⟨blk,off,none⟩) zs.length cap] w λe w'=>e = .returned (.tuple #[])/\∃n os,w'=grow (putRow (Value.int .i64) (Sort.ahead w n) blk off (lN zs).toArray) os)
  (hn:∀(p:Option Addr)(cap:Nat)(w:World),Calls P (num 75) #[.slice p 0 cap] w λe w'=>e = .returned (.tuple #[])/\w'=w) :
  j8 P num gl bE ⟨λf' avs kb h=>if f'=75 then B3 avs kb h else none,λ_ _ _ _=>none⟩:=by
 intro f avs kb h r h' hr;dsimp only at hr;split at hr
 case isFalse=>cases hr
 rename_i hf;subst hf;refine⟨hfn,?_⟩;intro Fb B0 ρ O w vs H hG hv;have htup:∀{ρ : Rho}{w:World}{F:Nat->Prop},Rv num ρ w F (.tup []) (.tuple #[]):=.tup _ _ rfl (λi x y hx=>by simp at hx);unfold B3 at hr;split at hr;cases hr;obtain⟨c,rfl,hrv⟩:=nK hv;have:∃p cap,c = .slice p 0 cap:=by cases hrv<;>exact⟨_,_,rfl⟩
 obtain⟨p,cap,rfl⟩:=this;refine(hn p cap w).mono ?_;rintro e w' ⟨rfl,rfl⟩;exact⟨_,ρ,O,rfl,Evo.refl _ _ _,H,htup⟩;rename_i k e off len cap;split at hr
 case h_2=>cases hr
 rename_i e' cs ti hg;split at hr
 case isFalse=>cases hr
 rename_i hcond;obtain⟨rfl,hle,hbig⟩:=hcond;split at hr
 case h_2=>cases hr
 rename_i zs hzs;cases hr;obtain⟨c,rfl,hrv⟩:=nK hv;cases hrv with
 |rf _ _ _ _ _ cap' L hL hlen hcap ht hroom=>obtain⟨hH,hb,hzl⟩:=FL H hg hL (BV hzs) hle;have hcall:=hc L.b (L.base+off) cap' zs w hH hb (by omega);rw[hzl]at hcall;refine hcall.mono ?_;rintro e w' ⟨rfl,n,os,rfl⟩;obtain⟨ev,H1⟩:=TJ (n:=n) H hg hL (zs:=lN zs) (by rw[nT];exact hzl) hle;obtain⟨ev2,H2⟩:=p9 H1 (F7 _ os);exact⟨_,ρ,O,rfl,ev.trans ev2,H2,htup⟩
 cases hr
theorem aJQ(hfn:H5 P (num 76))
  (hc:∀(blk off cap:Nat)(zs:List Int)(w:World),Holds (Value.int .i64) w blk off zs.toArray->zs.length<=16777216->zs.length<=cap ->
   Calls P (num 76) #[.slice (some ⟨blk,off,none⟩) zs.length cap] w λe w'=>e = .returned (.slice (some ⟨blk,off,none⟩) (fS zs).length cap)/\∃q,w'=putRow (Value.int .i64) (Sort.ahead w q) blk off (fS zs++List.replicate (zs.length-(fS zs).length) 0).toArray)
  (hn:∀(p:Option Addr)(cap:Nat)(w:World),Calls P (num 76) #[.slice p 0 cap] w λe w'=>e = .returned (.slice p 0 cap)/\w'=w) :
  j8 P num gl bE ⟨λf' avs kb h=>if f'=76 then B4 avs kb h else none,λ_ _ _ _=>none⟩:=by
 intro f avs kb h r h' hr;dsimp only at hr;split at hr
 case isFalse=>cases hr
 rename_i hf;subst hf;refine⟨hfn,?_⟩;intro Fb B0 ρ O w vs H hG hv;unfold B4 at hr;split at hr;cases hr;obtain⟨c,rfl,hrv⟩:=nK hv;have:∃p cap,c = .slice p 0 cap:=by cases hrv<;>exact⟨_,_,rfl⟩
 obtain⟨p,cap,rfl⟩:=this;refine(hn p cap w).mono ?_;rintro e w' ⟨rfl,rfl⟩;exact⟨_,ρ,O,rfl,Evo.refl _ _ _,H,hrv⟩;rename_i k e off len cap;split at hr
 case h_2=>cases hr
 rename_i e' cs ti hg;split at hr
 case isFalse=>cases hr
 rename_i hcond;obtain⟨rfl,hle,hbig⟩:=hcond;split at hr
 case h_2=>cases hr
 rename_i zs hzs;cases hr;obtain⟨c,rfl,hrv⟩:=nK hv;cases hrv with
 |rf _ _ _ _ _ cap' L hL hlen hcap ht hroom=>
  obtain⟨hH,hb,hzl⟩:=FL H hg hL (BV hzs) hle;have hcl:=tE zs;have hcall:=hc L.b (L.base+off) cap' zs w hH (by omega) (by omega);rw[hzl]at hcall;refine hcall.mono ?_;rintro e w' ⟨rfl,n,rfl⟩;have hln:(fS zs++List.replicate (zs.length-(fS zs).length) 0).length=len:=by simp;omega
  obtain⟨ev,H1⟩:=TJ (n:=n) H hg hL hln hle;rw[hzl]at ev H1 ⊢;exact⟨_,ρ,O,rfl,ev,H1,.rf _ _ _ _ _ cap' L hL (by omega) hcap ht hroom⟩
 cases hr
end
end
end Go.Tev
