import Derived.Test.YtagdhpkdbdilaaaGreatDoorIAQ
import Derived.Lib.AtoiAll
import Derived.Lib.AtoiAllCases
import Derived.Test.YtagdhpkdbdilaaaGreatDoorIAH
import Derived.Lib.SlicesCompact
import Derived.Lib.ItoaNum
import Derived.Lib.AtoiErrMem
import Derived.Sort.Grow
import Derived.KernelRfl
import Derived.Shelf.Strconv.Itoa3
import Derived.Shelf.LaysM
import Derived.Shelf.LaysC
import Derived.Shelf.Strconv.AtoiAll
import Derived.Ground.Names2Prog
import Derived.Test.YtagdhpkdbdilaaaGreatDoorProg
set_option linter.all false
namespace Go.Tev
section
mutual
def aE.sz:aE->Nat
 |.mk _ _ _ _ _ _ _ _ _ kids _=>1+aE.szL kids
def aE.szL:List aE->Nat
 |[]=>0
 |p::r=>p.sz+aE.szL r
end
theorem aE.sz_eq(p:aE):p.sz=1+aE.szL p.kids:=by cases p;rw[aE.sz];rfl
theorem aE.szL_mem:∀{l:List aE}{q:aE},q∈l->q.sz<=aE.szL l
 |x::r,q,h=>by rcases List.mem_cons.1 h with rfl|h;rw[aE.szL];omega;have:=aE.szL_mem h;rw[aE.szL];omega
mutual
def gL(values:Int):aE->List Str->Bool
 |.mk op num value name at_ dyn check fn knl kids kcl,vars=>
  gO (.mk op num value name at_ dyn check fn knl kids kcl) vars values&&bM at_.es vars&&eF values (decide (op.bs=[114,101,100,117,99,101])) name vars 0 kids
def eF(values:Int)(red:Bool)(name:Str)(vars:List Str):Nat->List aE->Bool
 |_,[]=>true
 |i,k::r=>gL values k (if red&&decide ((i:Int)=1) then vars++[name] else vars)&&eF values red name vars (i+1) r
end
theorem EK(values:Int)(p:aE)(vars:List Str):gL values p vars=(gO p vars values&&bM p.at_.es vars&&eF values (decide (p.op.bs=[114,101,100,117,99,101])) p.name vars 0 p.kids):=by cases p;rw[gL];rfl
theorem Own.snap{h:Hp}{k0 esz:Nat}{ag:Bool}{v:AV}{es:List AV}(o:Own h k0 esz ag v es)(he:∀x∈es,El esz ag x)(d:Nat):∃nl cl keys,Tev.snap (d+2) h v=some (.sl nl es cl,keys)/\(nl=true->es=[]):=by
 rcases o with ⟨rfl,nl,cl,rfl,hc⟩|⟨e,cs,rfl,hg,hu⟩
 exact⟨nl,cl,[],by rw[tQ];rfl,λ_=>rfl⟩;obtain⟨cs',h1,h2,h3,h4⟩:=cE he;rw[hu]at h1;cases h1;have h5:=h4 [];rw[List.append_nil]at h5;have ht:treeL es=true:=by
  clear h2 h4 h5 hu hg
  induction es with
  |nil=>rfl
  |cons x r ih=>simp only[treeL,aF];exact⟨(he x (by simp)).tree,ih (λy hy=>he y (bR _ hy))⟩
 have h6:mapS (Tev.snap (d+1) h) es=some (es,[]):=fR d h ht;exact⟨false,false,[k0],by rw[tQ];simp[hg,h5,h6,AV.tree],λh=>by cases h⟩
theorem vP{h:Hp}{d:Nat}{a:AV}(ha:a.tree=true):Tev.snap (d+1) h a=some (a,[]):=by rw[tQ,if_pos ha]
theorem kP{h:Hp}{d:Nat}{a b c b':AV}{keys:List Nat}(ha:a.tree=true)(hb:Tev.snap (d+1) h b=some (b',keys))(hc:c.tree=true):mapS (Tev.snap (d+1) h) [a,b,c]=some ([a,b',c],keys):=by simp[iJ,lM,vP ha,vP hc,hb]
section
variable{pg:Pg}
def gM(p:aE)(vars:List Str)(v:Int):Bool:=decide (hQ p<=4000)&&gL v p vars
def iU(a b:aI):Bool:=decide (a.op.bs=b.op.bs)&&decide (a.num=b.num)&&eqL (λx y=>decide (x=y)) a.args.es b.args.es
mutual
def cB:aE->aE->Bool
 |.mk op num value name at_ dyn check fn knl kids kcl,q=>decide (op.bs=q.op.bs)&&decide (num=q.num)&&decide (value=q.value)&&decide (name.bs=q.name.bs)&&(dyn==q.dyn)&&decide (check=q.check)&&eqL bQ at_.es q.at_.es&&eqL iU fn.es q.fn.es&&jL kids q.kids
def jL:List aE->List aE->Bool
 |[],l=>l.isEmpty
 |p::r,l=>match l with|[]=>false|q::s=>cB p q&&jL r s
end
theorem oJ(p q:aE):cB p q=(decide (p.op.bs=q.op.bs)&&decide (p.num=q.num)&&decide (p.value=q.value)&&decide (p.name.bs=q.name.bs)&&(p.dyn==q.dyn)&&decide (p.check=q.check)&&eqL bQ p.at_.es q.at_.es&&eqL iU p.fn.es q.fn.es&&jL p.kids q.kids):=by cases p;rw[cB];rfl
theorem kM:∀a b:List aE,jL a b=eqL cB a b
 |[],[]=>by simp[jL,eqL]
 |[],_::_=>by simp[jL,eqL]
 |_::_,[]=>by simp[jL,eqL]
 |p::r,q::s=>by simp[jL,eqL,kM r s]
end
end
section
mutual
def oH:aE->List Int
 |.mk op _ value _ _ _ _ _ _ kids _=>(if decide (op.bs=[114,101,97,100]) then [value] else [])++lJ kids
def lJ:List aE->List Int
 |[]=>[]
 |p::r=>oH p++lJ r
end
mutual
theorem BU:∀p:aE,(oH p).length<=p.sz
 |.mk op num value name at_ dyn check fn knl kids kcl=>by have:=qV kids;rw[oH,aE.sz,fV];split<;>simp<;>omega
theorem qV:∀l:List aE,(lJ l).length<=aE.szL l
 |[]=>by simp[lJ,aE.szL]
 |p::r=>by have h1:=BU p;have h2:=qV r;simp only[lJ,aE.szL,fV];omega
end
def BI(pg:Pg)(f:Nat)(vs:List AV)(kb:Nat)(h:Hp)(P:AV->Hp->Prop):Prop:=∃r h',BJ pg f vs kb h r h'/\P r h'
def I6(res:List (Sum Nat (Nat×Nat×Bool)))(P:AV->Hp->Prop)(ex:Ex)(st:St):Prop:=
 match ex with
 |.ext _=>False
 |_=>∃v,result st res=some v/\P v st.hp
theorem FX(res:List (Sum Nat (Nat×Nat×Bool)))(P:AV->Hp->Prop)(st:St):I6 res P .nor st=∃v,result st res=some v/\P v st.hp:=rfl
theorem FV(res:List (Sum Nat (Nat×Nat×Bool)))(P:AV->Hp->Prop)(st:St):I6 res P .ret st=∃v,result st res=some v/\P v st.hp:=rfl
attribute [go_sem ↓] FX FV
section
variable{pg:Pg}{kb:Nat}
theorem BI.ofX{f:Nat}{cf:CF}{vs:List AV}{h:Hp}{P:AV->Hp->Prop}(hf:pg.fs f=some cf)(hw:XX pg kb cf.body ⟨enter cf vs,h⟩ (I6 cf.res P) ⟨⟩):BI pg f vs kb h P:=by
 obtain⟨n,ex,st,h1,h2⟩:=hw;cases ex with
 |ext i=>exact h2.elim
 |nor=>obtain⟨v,h3,h4⟩:=h2;exact⟨v,st.hp,BJ.of hf ⟨n,.nor,st,h1,trivial,h3,rfl⟩,h4⟩
 |ret=>obtain⟨v,h3,h4⟩:=h2;exact⟨v,st.hp,BJ.of hf ⟨n,.ret,st,h1,trivial,h3,rfl⟩,h4⟩
theorem PP{esz bytes s k1:Nat}{ag:Bool}{h:Hp}{v:AV}{es xs:List AV}{nl cl:Bool}{Q:AV->Eff->Prop}{t:Tok Q}(o:Own h k1 esz ag v es)(he:∀x∈es,El esz ag x)(hx:∀x∈xs,El esz ag x)(hxs:xs≠[])
  (hl:es.length+xs.length<=1073741824) (hb:bytes<=65536)
  (q2:∀v' rd pa,Own (Eff.app h (.pat rd pa)) (kb+s) esz ag v' (es++xs)->(∀k,k≠kb+s->k≠k1->(Eff.app h (.pat rd pa)).get k=h.get k)->Q v' (.pat rd pa)) :
  XO pg kb (.app esz ag bytes) s h [v,.sl nl xs cl] Q t:=by
 by_cases hk:k1=kb+s;subst hk;exact o9 o he hx hl hb (λv' rd pa h1 h2 _=>q2 v' rd pa h1 (λk h3 _=>h2 k h3));exact PQ o hk he hx hl hb (λh=>absurd h hxs) (λ_ v' rd pa h1 h2=>q2 v' rd pa h1 h2)
def Out(h:Hp)(v:AV)(es:List Int):Prop:=∃k,Own h k 1 false v (es.map bE)/\65536<=k/\k % 65536=5
theorem El.ints(l:List Int):∀x∈l.map bE,El 1 false x:=by intro x hx;simp only[List.mem_map]at hx;obtain⟨y,_,rfl⟩:=hx;exact⟨rfl,rfl,rfl⟩
theorem Out.put{h:Hp}{v:AV}{es:List Int}(o:Out h v es){q e:Nat}{ob:Ob}(hq:q<65536\/q % 65536≠5):Out (h.put q e ob) v es:=by obtain⟨k,o,h1,h2⟩:=o;refine⟨k,o.mono ?_,h1,h2⟩;rw[aR,if_neg (by intro h;subst h;omega)]
theorem Own.one{h:Hp}{k0 esz:Nat}{ag:Bool}{v:AV}{es:List AV}(o:Own h k0 esz ag v es):v.fits 1 false=true/\v.one=true/\v.cells=[v]:=by
 rcases o with ⟨rfl,nl,cl,rfl,hc⟩|⟨e,cs,rfl,hg,hu⟩
 exact⟨rfl,rfl,rfl⟩;exact⟨rfl,rfl,rfl⟩
end
end
section
def aPv(x:Int):List Int->List Int
 |[]=>[x]
 |y::r=>if x<=y then x::y::r else y::aPv x r
def GP:List Int->List Int
 |[]=>[]
 |x::r=>aPv x (GP r)
def u3:List Int->List Int
 |[]=>[]
 |[x]=>[x]
 |x::y::r=>if x=y then u3 (y::r) else x::u3 (y::r)
def GU(p:aE):List Int:=u3 (GP (oH p))
theorem nA:∀(l:List Int),bF 1 false (l.map bE)=some (l.map bE)
 |[]=>rfl
 |x::r=>by have ih:=nA r;rw[List.map_cons,bF,ih];rfl
section
variable{pg:Pg}
theorem BI.mono{f:Nat}{vs:List AV}{kb:Nat}{h:Hp}{P P':AV->Hp->Prop}(hr:BI pg f vs kb h P)(hP:∀r h',P r h'->P' r h'):BI pg f vs kb h P':=by obtain⟨r,h',a,b⟩:=hr;exact⟨r,h',a,hP r h' b⟩
end
end
section
def FY:Nat->Nat->List UInt8
 |0,_=>[]
 |f+1,u=>if u<10 then [UInt8.ofNat (48+u)] else FY f (u / 10)++[UInt8.ofNat (48+u % 10)]
end
section
def oW(args:List AV)(_:Nat)(h:Hp):Option (AV×Hp):=
 match args with
 |[.str s]=>
  if s.length<=16777216 then
   match Lib.atoiAll s with
   |.ok v=>some (.tup [.int .i64 v,.nili],h)
   |.range=>some (.tup [.int .i64 (Lib.atoiSat s),.ifc .top],h)
   |_=>some (.tup [.int .i64 0,.ifc .top],h)
  else none
 |_=>none
def oV(args:List AV)(_:Nat)(h:Hp):Option (AV×Hp):=
 match args with
 |[.int .i64 n]=>if 0<=n/\n<=9223372036854775807 then some (.str (FY 20 n.toNat),h) else none
 |_=>none
def CH:List AV->Option (List Int)
 |[]=>some []
 |.int .i64 n::r=>(CH r).map (n :: ·)
 |_=>none
def aFK(args:List AV)(_:Nat)(h:Hp):Option (AV×Hp):=
 match args with
 |[.sl _ [] _]=>some (.tup [],h)
 |[.rf k e off len _]=>
  match h.get k with
  |some (e',.blk cs 1 false ti false)=>
   if e'=e/\off+len<=cs.length/\len<=16777216 then
    match CH ((cs.drop off).take len) with
    |some zs=>some (.tup [],h.put k e (.blk (cM cs off ((GP zs).map bE)) 1 false ti false))
    |none=>none
   else none
  |_=>none
 |_=>none
def aFM(args:List AV)(_:Nat)(h:Hp):Option (AV×Hp):=
 match args with
 |[.sl nl [] cl]=>some (.sl nl [] cl,h)
 |[.rf k e off len cap]=>
  match h.get k with
  |some (e',.blk cs 1 false ti false)=>
   if e'=e/\off+len<=cs.length/\len<=16777216 then
    match CH ((cs.drop off).take len) with
    |some zs=>some (.rf k e off (u3 zs).length cap,h.put k e (.blk (cM cs off ((u3 zs++List.replicate (zs.length-(u3 zs).length) 0).map bE)) 1 false ti false))
    |none=>none
   else none
  |_=>none
 |_=>none
structure Ora(pg:Pg):Prop where
 f92:pg.fs 92=none
 f93:pg.fs 93=none
 f75:pg.fs 75=none
 f76:pg.fs 76=none
 atoi:pg.ex 92=some oW
 itoa:pg.ex 93=some oV
 sort:pg.ex 75=some aFK
 comp:pg.ex 76=some aFM
structure aXq(pg:Pg):Prop where
 f92:pg.fs 92=none
 f93:pg.fs 93=none
 atoi:pg.ex 92=some oW
 itoa:pg.ex 93=some oV
section
variable{pg:Pg}
theorem Ora.n(A:Ora pg):aXq pg:=⟨A.f92,A.f93,A.atoi,A.itoa⟩
def nm:Bool->List UInt8->Bool
 |_,[]=>true
 | fst,c::r=>(eS c||(!fst&&gF c))&&nm false r
end
end
section
open Go.Sort
theorem lR:∀(f u:Nat),u<10 ^ f->Lib.decDigits u=FY f u\/f=0
 |0,u,_ => .inr rfl
 |f+1,u,h=>by left;rw[FY,Lib.decDigits];by_cases h1:u<10;rw[dif_pos h1,if_pos h1];rw[dif_neg h1,if_neg h1];rcases lR f (u / 10) (by rw[Nat.pow_succ]at h;omega) with h2|h2;rw[h2];subst h2;simp at h;omega
theorem FH{n:Int}(h0:0<=n)(h1:n<=9223372036854775807):Lib.itoa n=FY 20 n.toNat:=by rw[Lib.itoa,if_neg (by omega)];rcases lR 20 n.toNat (by omega) with h|h;exact h;cases h
section
variable{P:Program}{num:Nm}{gl:Nat->Option AV}{gnum:Nat->Nat}{Fb:Nat->Prop}{B0:Nat}{ρ : Rho}{w w':World}{O:Nat->Prop}{h:Hp}
theorem l9(H:HpR num Fb B0 ρ w O h)(hb:RowKit.Below w.heap.size w w'):Evo ρ w O ρ w' O/\HpR num Fb B0 ρ w' O h:=by
 have ev:Evo ρ w O ρ w' O:=⟨hb.os,hb.tape,hb.output,hb.size,λb h1 _=>hb.block b h1,λ_ _ h=>h,λ_ _ _ h=>h⟩
 exact⟨ev,H.same ev (λb hO=>hb.block b (H.own b hO).2)⟩
def P1 (P:Program) (f:Nat):Prop:=∃fn,P.funcs[f]?=some fn/\fn.body.isSome=true/\fn.name ≠ "runtime.NumGoroutine"
theorem oA{R:AV->Value->Prop}{x:AV}{vs:List Value}(h:aJ R [x] vs):∃c,vs=[c]/\R x c:=by
 cases h with
 |cons h1 h2=>cases h2;exact⟨_,rfl,h1⟩
theorem aFB(hfn:P1 P (num 93))(g:Nat)(hg:gl g=some (.agg (Lib.pow10Tab.map λn => .int .u64 n)))
  (hc:∀(n:Int),0<=n->n<=9223372036854775807->∀w:World,(∃T fr,w.heap[gnum g]?=some (.cells (Lib.pow10Tab.map λz=>Value.int .u64 z).toArray T fr)) ->
   Calls P (num 93) #[.int .i64 n] w λe w'=>e = .returned (.string ⟨(Lib.itoa n).toArray⟩)/\RowKit.Below w.heap.size w w') :
  gS P num gl gnum ⟨λf' avs kb h=>if f'=93 then oV avs kb h else none,λ_ _ _ _=>none⟩:=by
 intro f avs kb h r h' hr;dsimp only at hr;split at hr
 case isFalse=>cases hr
 rename_i hf;subst hf;refine⟨hfn,?_⟩;intro Fb B0 ρ O w vs H hG hv;unfold oV at hr;split at hr
 case h_2=>cases hr
 rename_i n;split at hr
 case isFalse=>cases hr
 rename_i hn;cases hr;obtain⟨c,rfl,hrv⟩:=oA hv;cases hrv
 have htab:∃T fr,w.heap[gnum g]?=some (.cells (Lib.pow10Tab.map λz=>Value.int .u64 z).toArray T fr):=by
  obtain⟨⟨_,c,T,fr,h1,h2⟩,hp⟩:=hG g _ hg;refine⟨T,fr,?_⟩;rw[h1];have hsz:c.size=Lib.pow10Tab.length:=by rw[h2];simp[AV.cells]
  have hce:c=(Lib.pow10Tab.map λz=>Value.int .u64 z).toArray:=by
   apply Array.ext;simp[hsz];intro i hi1 hi2;obtain⟨b,off,m,hx,hF,hb,hm,hr⟩:=hp.of_fp;cases hx;have hil:i<Lib.pow10Tab.length:=by omega
   have h3:=hm i (by simp only[AV.cells,cY];exact hil);have h4:=hr i (.int .u64 (Lib.pow10Tab[i]'hil)) (by simp only[AV.cells,List.getElem?_map,bX hil];rfl);rw[Nat.zero_add]at h3;simp only[World.cell?,h1,Option.isSome_none,Bool.false_eq_true,if_false,Array.getElem?_eq_getElem hi1,aP]at h3;rw[<-h3]at h4;have h5:=h4.of_int;rw[h5];simp
  rw[hce]
 refine(hc n hn.1 hn.2 w htab).mono ?_;rintro e w' ⟨rfl,hb⟩;obtain⟨ev,H'⟩:=l9 H hb;refine⟨_,ρ,O,rfl,ev,H',?_⟩;rw[FH hn.1 hn.2];exact .str _
theorem aGi(hfn:P1 P (num 92))(g1 g2:Nat)(hg1:gl g1=some (.ifc .top))(hg2:gl g2=some (.ifc .top))
  (hok:∀(s:List UInt8),s.length<=16777216->∀v,Lib.atoiAll s = .ok v->∀w:World,Calls P (num 92) #[.string ⟨s.toArray⟩] w λe w'=>e = .returned (.tuple #[.int .i64 v,.nilIface])/\RowKit.Below w.heap.size w w')
  (hsy:∀(s:List UInt8),s.length<=16777216->(∀v,Lib.atoiAll s ≠ .ok v)->Lib.atoiAll s ≠ .range->∀(w:World)(te:TypeId)(pe:Value),w.cell? ⟨gnum g1,0,none⟩=some (.iface te pe) ->
   Calls P (num 92) #[.string ⟨s.toArray⟩] w λe w'=>∃t p,e = .returned (.tuple #[.int .i64 0,.iface t p])/\RowKit.Below w.heap.size w w')
  (hra:∀(s:List UInt8),s.length<=16777216->Lib.atoiAll s = .range->∀(w:World)(te:TypeId)(pe:Value),w.cell? ⟨gnum g2,0,none⟩=some (.iface te pe) ->
   Calls P (num 92) #[.string ⟨s.toArray⟩] w λe w'=>∃t p,e = .returned (.tuple #[.int .i64 (Lib.atoiSat s),.iface t p])/\RowKit.Below w.heap.size w w') :
  gS P num gl gnum ⟨λf' avs kb h=>if f'=92 then oW avs kb h else none,λ_ _ _ _=>none⟩:=by
 intro f avs kb h r h' hr;dsimp only at hr;split at hr
 case isFalse=>cases hr
 rename_i hf;subst hf;refine⟨hfn,?_⟩;intro Fb B0 ρ O w vs H hG hv;have hcell:∀g,gl g=some (.ifc .top)->∃te pe,w.cell? ⟨gnum g,0,none⟩=some (.iface te pe):=by
  intro g hg;obtain⟨_,hp⟩:=hG g _ hg;cases hp with
  |fp _ _ _ c hF hb hm hr=>have h1:=hm 0 (by simp[AV.cells]);have h2:=hr 0 (.ifc .top) (by simp[AV.cells]);simp only[Nat.add_zero]at h1;rw[h1];generalize c 0=ci at h2 ⊢;cases h2;exact⟨_,_,rfl⟩
 unfold oW at hr;split at hr
 case h_2=>cases hr
 rename_i s;split at hr
 case isFalse=>cases hr
 rename_i hs;obtain⟨c,rfl,hrv⟩:=oA hv;cases hrv;split at hr;rename_i v ha;cases hr;refine(hok s hs v ha w).mono ?_;rintro e w' ⟨rfl,hb⟩;obtain⟨ev,H'⟩:=l9 H hb;refine⟨_,ρ,O,rfl,ev,H',?_⟩;refine .tup _ _ rfl ?_;intro i x y hx hy
 match i,hx,hy with
 |0,hx,hy=>simp at hx hy;subst hx;subst hy;exact .int _ _
 |1,hx,hy=>simp at hx hy;subst hx;subst hy;exact .nili
 |i+2,hx,hy=>simp at hx
 rename_i ha;cases hr;obtain⟨te,pe,hce⟩:=hcell g2 hg2;refine(hra s hs ha w te pe hce).mono ?_;rintro e w' ⟨t,p,rfl,hb⟩;obtain⟨ev,H'⟩:=l9 H hb;refine⟨_,ρ,O,rfl,ev,H',?_⟩;refine .tup _ _ rfl ?_;intro i x y hx hy
 match i,hx,hy with
 |0,hx,hy=>simp at hx hy;subst hx;subst hy;exact .int _ _
 |1,hx,hy=>simp at hx hy;subst hx;subst hy;exact .ifc _ _ _ (.top _)
 |i+2,hx,hy=>simp at hx
 rename_i ha1 ha2;cases hr;obtain⟨te,pe,hce⟩:=hcell g1 hg1;refine(hsy s hs (λv e=>ha1 v e) (λe=>ha2 e) w te pe hce).mono ?_;rintro e w' ⟨t,p,rfl,hb⟩;obtain⟨ev,H'⟩:=l9 H hb;refine⟨_,ρ,O,rfl,ev,H',?_⟩;refine .tup _ _ rfl ?_;intro i x y hx hy
 match i,hx,hy with
 |0,hx,hy=>simp at hx hy;subst hx;subst hy;exact .int _ _
 |1,hx,hy=>simp at hx hy;subst hx;subst hy;exact .ifc _ _ _ (.top _)
 |i+2,hx,hy=>simp at hx
end
end
section
open Go.Sort
section
variable{P:Program}{num:Nm}{gl:Nat->Option AV}{gnum:Nat->Nat}{Fb:Nat->Prop}{B0:Nat}{ρ : Rho}{w w':World}{O:Nat->Prop}{h:Hp}
end
end
end Go.Tev
section
namespace Go.Proofs
open Go.Shelf
def Tryz.laysM171_ren:Go.Shelf.Ren:=⟨λ|171=>46|243=>86|246=>116|283=>141|284=>142|285=>143|286=>144|129=>178|317=>177|318=>179|319=>180|320=>181|337=>226|338=>227|n=>n,λ|3=>3|9=>9|2=>2|4=>4|171=>170|0=>0|53=>171|37=>116|5=>5|173=>174|212=>229|51=>230|20=>20|213=>231|46=>222|232=>327|233=>328|n=>n,λ|17=>2|18=>3|19=>4|n=>n⟩
theorem aL{α : Type}{x:Option α}{a b : α}(h:x=some a)(k:a=b:=by kernel_rfl):x=some b:=h.trans (congrArg some k)
theorem Tryz.laysM171:Go.Proofs.LaysM.n171 Tryz.prog Tryz.laysM171_ren:={
 mixed:=by kernel_rfl
 f129:=aL Tryz.func178
 f171:=aL Tryz.func46
 f243:=aL Tryz.func86
 f246:=aL Tryz.func116
 f283:=aL Tryz.func141
 f284:=aL Tryz.func142
 f285:=aL Tryz.func143
 f286:=aL Tryz.func144
 f317:=aL Tryz.func177
 f318:=aL Tryz.func179
 f319:=aL Tryz.func180
 f320:=aL Tryz.func181
 f337:=aL Tryz.func226
 f338:=aL Tryz.func227
 t0:=Tryz.underlying0
 a0:=Tryz.isAgg0
 z0:=Tryz.sizeOf0
 v0:=Tryz.zeroValue0
 t2:=Tryz.underlying2
 a2:=Tryz.isAgg2
 z2:=Tryz.sizeOf2
 v2:=Tryz.zeroValue2
 t3:=Tryz.underlying3
 a3:=Tryz.isAgg3
 z3:=Tryz.sizeOf3
 v3:=Tryz.zeroValue3
 t4:=Tryz.underlying4
 a4:=Tryz.isAgg4
 z4:=Tryz.sizeOf4
 v4:=Tryz.zeroValue4
 t5:=Tryz.underlying5
 a5:=Tryz.isAgg5
 z5:=Tryz.sizeOf5
 v5:=Tryz.zeroValue5
 t9:=Tryz.underlying9
 a9:=Tryz.isAgg9
 z9:=Tryz.sizeOf9
 v9:=Tryz.zeroValue9
 t20:=Tryz.underlying20
 a20:=Tryz.isAgg20
 z20:=Tryz.sizeOf20
 v20:=Tryz.zeroValue20
 t37:=Tryz.underlying116
 a37:=Tryz.isAgg116
 z37:=Tryz.sizeOf116
 v37:=Tryz.zeroValue116
 t46:=Tryz.underlying222
 a46:=Tryz.isAgg222
 z46:=Tryz.sizeOf222
 v46:=Tryz.zeroValue222
 t51:=Tryz.underlying230
 a51:=Tryz.isAgg230
 z51:=Tryz.sizeOf230
 v51:=Tryz.zeroValue230
 t53:=Tryz.underlying171
 a53:=Tryz.isAgg171
 z53:=Tryz.sizeOf171
 v53:=Tryz.zeroValue171
 t171:=Tryz.underlying170
 a171:=Tryz.isAgg170
 z171:=Tryz.sizeOf170
 v171:=Tryz.zeroValue170
 t173:=Tryz.underlying174
 a173:=Tryz.isAgg174
 z173:=Tryz.sizeOf174
 v173:=Tryz.zeroValue174
 t212:=Tryz.underlying229
 a212:=Tryz.isAgg229
 z212:=Tryz.sizeOf229
 v212:=Tryz.zeroValue229
 t213:=Tryz.underlying231
 a213:=Tryz.isAgg231
 z213:=Tryz.sizeOf231
 t232:=Tryz.underlying327
 a232:=Tryz.isAgg327
 z232:=Tryz.sizeOf327
 v232:=Tryz.zeroValue327
 t233:=Tryz.underlying328
 a233:=Tryz.isAgg328
 z233:=Tryz.sizeOf328
 v233:=Tryz.zeroValue328
 g17:=by kernel_rfl
 g18:=by kernel_rfl
 g19:=by kernel_rfl
 i0:=by kernel_rfl
 i2:=by kernel_rfl
 i3:=by kernel_rfl
 i4:=by kernel_rfl
 i5:=by kernel_rfl
 i9:=by kernel_rfl
 i20:=by kernel_rfl
 i37:=by kernel_rfl
 i46:=by kernel_rfl
 i51:=by kernel_rfl
 i53:=by kernel_rfl
 i171:=by kernel_rfl
 i173:=by kernel_rfl
 i212:=by kernel_rfl
 i232:=by kernel_rfl
 i233:=by kernel_rfl
 m17:=by kernel_rfl
 m18:=by kernel_rfl
 m19:=by kernel_rfl}
def Tryz.laysC172_ren:Go.Shelf.Ren:=⟨λ|172=>80|244=>114|245=>115|247=>136|279=>137|280=>138|281=>139|282=>140|287=>174|316=>175|171=>46|205=>176|321=>224|322=>225|243=>86|246=>116|283=>141|284=>142|285=>143|286=>144|129=>178|317=>177|318=>179|319=>180|320=>181|337=>226|338=>227|n=>n,λ|9=>9|3=>3|75=>113|76=>114|4=>4|5=>5|167=>164|37=>116|0=>0|85=>165|2=>2|168=>167|53=>171|175=>220|46=>222|210=>225|127=>286|145=>289|143=>287|21=>21|171=>170|173=>174|212=>229|51=>230|20=>20|213=>231|232=>327|233=>328|80=>370|n=>n,λ|15=>0|16=>1|17=>2|18=>3|19=>4|n=>n⟩
theorem Tryz.laysC172:Go.Proofs.LaysC.n172 Tryz.prog Tryz.laysC172_ren:={
 mixed:=by kernel_rfl
 f129:=aL Tryz.func178
 f171:=aL Tryz.func46
 f172:=aL Tryz.func80
 f205:=aL Tryz.func176
 f243:=aL Tryz.func86
 f244:=aL Tryz.func114
 f245:=aL Tryz.func115
 f246:=aL Tryz.func116
 f247:=aL Tryz.func136
 f279:=aL Tryz.func137
 f280:=aL Tryz.func138
 f281:=aL Tryz.func139
 f282:=aL Tryz.func140
 f283:=aL Tryz.func141
 f284:=aL Tryz.func142
 f285:=aL Tryz.func143
 f286:=aL Tryz.func144
 f287:=aL Tryz.func174
 f316:=aL Tryz.func175
 f317:=aL Tryz.func177
 f318:=aL Tryz.func179
 f319:=aL Tryz.func180
 f320:=aL Tryz.func181
 f321:=aL Tryz.func224
 f322:=aL Tryz.func225
 f337:=aL Tryz.func226
 f338:=aL Tryz.func227
 t0:=Tryz.underlying0
 a0:=Tryz.isAgg0
 z0:=Tryz.sizeOf0
 v0:=Tryz.zeroValue0
 t2:=Tryz.underlying2
 a2:=Tryz.isAgg2
 z2:=Tryz.sizeOf2
 v2:=Tryz.zeroValue2
 t3:=Tryz.underlying3
 a3:=Tryz.isAgg3
 z3:=Tryz.sizeOf3
 v3:=Tryz.zeroValue3
 t4:=Tryz.underlying4
 a4:=Tryz.isAgg4
 z4:=Tryz.sizeOf4
 v4:=Tryz.zeroValue4
 t5:=Tryz.underlying5
 a5:=Tryz.isAgg5
 z5:=Tryz.sizeOf5
 v5:=Tryz.zeroValue5
 t9:=Tryz.underlying9
 a9:=Tryz.isAgg9
 z9:=Tryz.sizeOf9
 v9:=Tryz.zeroValue9
 t20:=Tryz.underlying20
 a20:=Tryz.isAgg20
 z20:=Tryz.sizeOf20
 v20:=Tryz.zeroValue20
 t21:=Tryz.underlying21
 a21:=Tryz.isAgg21
 z21:=Tryz.sizeOf21
 v21:=Tryz.zeroValue21
 t37:=Tryz.underlying116
 a37:=Tryz.isAgg116
 z37:=Tryz.sizeOf116
 v37:=Tryz.zeroValue116
 t46:=Tryz.underlying222
 a46:=Tryz.isAgg222
 z46:=Tryz.sizeOf222
 v46:=Tryz.zeroValue222
 t51:=Tryz.underlying230
 a51:=Tryz.isAgg230
 z51:=Tryz.sizeOf230
 v51:=Tryz.zeroValue230
 t53:=Tryz.underlying171
 a53:=Tryz.isAgg171
 z53:=Tryz.sizeOf171
 v53:=Tryz.zeroValue171
 t75:=Tryz.underlying113
 a75:=Tryz.isAgg113
 z75:=Tryz.sizeOf113
 v75:=Tryz.zeroValue113
 t76:=Tryz.underlying114
 a76:=Tryz.isAgg114
 z76:=Tryz.sizeOf114
 v76:=Tryz.zeroValue114
 t85:=Tryz.underlying165
 a85:=Tryz.isAgg165
 z85:=Tryz.sizeOf165
 v85:=Tryz.zeroValue165
 t127:=Tryz.underlying286
 a127:=Tryz.isAgg286
 z127:=Tryz.sizeOf286
 v127:=Tryz.zeroValue286
 t143:=Tryz.underlying287
 a143:=Tryz.isAgg287
 z143:=Tryz.sizeOf287
 v143:=Tryz.zeroValue287
 t145:=Tryz.underlying289
 a145:=Tryz.isAgg289
 z145:=Tryz.sizeOf289
 v145:=Tryz.zeroValue289
 t167:=Tryz.underlying164
 a167:=Tryz.isAgg164
 z167:=Tryz.sizeOf164
 v167:=Tryz.zeroValue164
 t168:=Tryz.underlying167
 a168:=Tryz.isAgg167
 z168:=Tryz.sizeOf167
 v168:=Tryz.zeroValue167
 t171:=Tryz.underlying170
 a171:=Tryz.isAgg170
 z171:=Tryz.sizeOf170
 v171:=Tryz.zeroValue170
 t173:=Tryz.underlying174
 a173:=Tryz.isAgg174
 z173:=Tryz.sizeOf174
 v173:=Tryz.zeroValue174
 t175:=Tryz.underlying220
 a175:=Tryz.isAgg220
 z175:=Tryz.sizeOf220
 v175:=Tryz.zeroValue220
 t210:=Tryz.underlying225
 a210:=Tryz.isAgg225
 z210:=Tryz.sizeOf225
 v210:=Tryz.zeroValue225
 t212:=Tryz.underlying229
 a212:=Tryz.isAgg229
 z212:=Tryz.sizeOf229
 v212:=Tryz.zeroValue229
 t213:=Tryz.underlying231
 a213:=Tryz.isAgg231
 z213:=Tryz.sizeOf231
 t232:=Tryz.underlying327
 a232:=Tryz.isAgg327
 z232:=Tryz.sizeOf327
 v232:=Tryz.zeroValue327
 t233:=Tryz.underlying328
 a233:=Tryz.isAgg328
 z233:=Tryz.sizeOf328
 v233:=Tryz.zeroValue328
 g15:=by kernel_rfl
 g16:=by kernel_rfl
 g17:=by kernel_rfl
 g18:=by kernel_rfl
 g19:=by kernel_rfl
 t80:=Tryz.underlying370
 a80:=Tryz.isAgg370
 z80:=Tryz.sizeOf370
 v80:=Tryz.zeroValue370
 i0:=by kernel_rfl
 i2:=by kernel_rfl
 i3:=by kernel_rfl
 i4:=by kernel_rfl
 i5:=by kernel_rfl
 i9:=by kernel_rfl
 i20:=by kernel_rfl
 i21:=by kernel_rfl
 i37:=by kernel_rfl
 i46:=by kernel_rfl
 i51:=by kernel_rfl
 i53:=by kernel_rfl
 i75:=by kernel_rfl
 i76:=by kernel_rfl
 i80:=by kernel_rfl
 i85:=by kernel_rfl
 i127:=by kernel_rfl
 i143:=by kernel_rfl
 i145:=by kernel_rfl
 i167:=by kernel_rfl
 i168:=by kernel_rfl
 i171:=by kernel_rfl
 i173:=by kernel_rfl
 i175:=by kernel_rfl
 i210:=by kernel_rfl
 i212:=by kernel_rfl
 i232:=by kernel_rfl
 i233:=by kernel_rfl
 m15:=by kernel_rfl
 m16:=by kernel_rfl
 m17:=by kernel_rfl
 m18:=by kernel_rfl
 m19:=by kernel_rfl
 c0:=by kernel_rfl
 c2:=by kernel_rfl
 c3:=by kernel_rfl
 c4:=by kernel_rfl
 c5:=by kernel_rfl
 c9:=by kernel_rfl
 c20:=by kernel_rfl
 c21:=by kernel_rfl
 c37:=by kernel_rfl
 c46:=by kernel_rfl
 c51:=by kernel_rfl
 c53:=by kernel_rfl
 c75:=by kernel_rfl
 c76:=by kernel_rfl
 c80:=by kernel_rfl
 c85:=by kernel_rfl
 c127:=by kernel_rfl
 c143:=by kernel_rfl
 c145:=by kernel_rfl
 c167:=by kernel_rfl
 c168:=by kernel_rfl
 c171:=by kernel_rfl
 c173:=by kernel_rfl
 c175:=by kernel_rfl
 c210:=by kernel_rfl
 c212:=by kernel_rfl
 c213:=by kernel_rfl
 c232:=by kernel_rfl
 c233:=by kernel_rfl}
open Go.RowKit Go.Sort Go.Lib in
theorem Tryz.strconv_Itoa(n:Int)(h0 : -9223372036854775808<=n)(h1:n<=9223372036854775807)(w:World){T:TypeId}{fr:Nat×Nat}(ht:w.heap[2]?=some (.cells (Lib.pow10Tab.map λz=>Value.int .u64 z).toArray T fr)) :
  Calls Tryz.prog 46 #[.int .i64 n] w λe w'=>e = .returned (.string ⟨(Lib.itoa n).toArray⟩)/\∃k os,w'=grow (w.drewN k) os:=by
 refine Any.strconv_Itoa Tryz.laysM171 n h0 h1 w ?_;unfold Lib.TabIs World.var?;rw[show Tryz.prog.globalNamed _=some 2 by kernel_rfl,Option.bind_some,ht]
open Go.RowKit in
theorem Tryz.strconv_Atoi_ok(s:ByteArray)(hmax:s.size<=9223372036854775806)(v:Int)(h:Lib.atoiAll s.data.toList = .ok v)(w:World) :
  Calls Tryz.prog 80 #[.string s] w λe w'=>e = .returned (.tuple #[.int .i64 v,.nilIface])/\(w'=w\/∃t,w'=Lib.bytesWorld w 5 t):=Any.strconv_Atoi_ok Tryz.laysC172 s hmax v h w
open Go.RowKit in
theorem Tryz.strconv_Atoi_bad(s:ByteArray)(hlim:s.size<=281474976710656)(h1:∀v,Lib.atoiAll s.data.toList ≠ .ok v)(h2:Lib.atoiAll s.data.toList ≠ .range)(ev:Value)(w:World)(hv:w.cell? ⟨0,0,none⟩=some ev)(hev:ev = .nilIface\/∃te pe,ev = .iface te pe) :
  Calls Tryz.prog 80 #[.string s] w λe w'=>∃N,e = .returned (.tuple #[.int .i64 (0),.iface 167 (.pointer (some ⟨N,0,none⟩))])/\w.heap.size<=N/\w'.heap[N]?=some (.cells #[.string ⟨#[65,116,111,105]⟩,.string s,ev] 225 (0,0))/\Below w.heap.size w w':=by
 cases h:Lib.atoiAll s.data.toList
 case ok v=>exact absurd h (h1 v)
 case range=>exact absurd h h2
 exact Any.strconv_Atoi_syntax Tryz.laysC172 s hlim h ev w hv hev
open Go.RowKit in
theorem Tryz.strconv_Atoi_range(s:ByteArray)(hlim:s.size<=281474976710656)(h:Lib.atoiAll s.data.toList = .range)(ev:Value)(w:World)(hv:w.cell? ⟨1,0,none⟩=some ev)(hev:ev = .nilIface\/∃te pe,ev = .iface te pe) :
  Calls Tryz.prog 80 #[.string s] w λe w'=>∃N,e = .returned (.tuple #[.int .i64 (Lib.atoiSat s.data.toList),.iface 167 (.pointer (some ⟨N,0,none⟩))])/\w.heap.size<=N/\w'.heap[N]?=some (.cells #[.string ⟨#[65,116,111,105]⟩,.string s,ev] 225 (0,0))/\Below w.heap.size w w':=Any.strconv_Atoi_range Tryz.laysC172 s hlim h ev w hv hev
end Go.Proofs
end
