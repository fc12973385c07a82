import Derived.Test.YtmcadllokkmeiaaGreatDoorMAW
import Derived.Test.YtmcadllokkmeiaaGreatDoorMBB
import Derived.Test.YtmcadllokkmeiaaGreatDoorMAR
import Derived.Test.YtmcadllokkmeiaaGreatDoorMAH
import Derived.Test.YtmcadllokkmeiaaGreatDoorMAM
import Derived.Test.YtmcadllokkmeiaaGreatDoorMAY
import Derived.Test.YtmcadllokkmeiaaGreatDoorMAX
set_option linter.all false
section
namespace Go.Tev
section
variable{pg:Pg}
end
end Go.Tev
end
section
namespace Go.Tev
def wH(n:Int):List UInt8:=if n<0 then [] else 105::jQ 20 n.toNat
theorem AQ:∀f u,(jQ f u).length<=f
 |0,u=>by simp[jQ]
 |f+1,u=>by
  have:=AQ f (u / 10)
  simp only[jQ]
  split<;>simp<;>omega
section
variable{pg:Pg}
theorem RX(A:Ora pg)(hf:pg.fs 108=some cf108)(n:Int)(hn:n<=9223372036854775807):Ret pg 108 [.int .i64 n] (.str (wH n)):=by
 refine Ret.ofX hf ?_
 unfold cf108
 by_cases h:n<0
 ·have h1:decide (n<0)=true:=decide_eq_true h
  simp only[h1,go_sem,seval]
  rw[wH,if_pos h]
 ·have h1:decide (n<0)=false:=decide_eq_false h
  have a:Ret pg 93 [.int .i64 n] (.str (jQ 20 n.toNat)):=by
   refine pY A.f93 A.itoa ?_ rfl
   simp only[mO]
   rw[if_pos (by omega)]
  have hl:=AQ 20 n.toNat
  have e2:(1+(jQ 20 n.toNat).length<=9223372036854775807)=True:=eq_true (by omega)
  simp only[h1,go_sem,seval]
  refine aB a (by simp only[go_sem,seval]) rfl ?_
  simp only[e2,go_sem,seval]
  rw[wH,if_neg h]
end
end Go.Tev
end
section
namespace Go.Tev
end Go.Tev
end
section
namespace Go.Tev
def oD(i:Nat)(l:Lin):Bool:=decide (l.c=0)&&match l.ts.es with
 |[t]=>decide (t.v.bs=wH i)&&decide (t.c=1)
 |_=>false
def mB:Nat->List Lin->Bool
 |_,[]=>true
 |i,l::r=>oD i l&&mB (i+1) r
def o9(p:aC)(rank:Int):Bool := !p.dyn&&(decide ((p.at_.es.length:Int)=rank)&&mB 0 p.at_.es)
def zR(v rank:Int)(p:aC):Bool := !(decide (p.op.bs=[114,101,97,100])&&(decide (p.value=v) && !o9 p rank))
mutual
def vC(v rank:Int):aC->Bool
 |.mk op num value name at_ dyn check fn knl kids kcl=>zR v rank (.mk op num value name at_ dyn check fn knl kids kcl)&&wD v rank kids
def wD(v rank:Int):List aC->Bool
 |[]=>true
 |p::r=>vC v rank p&&wD v rank r
end
theorem KJ(v rank:Int)(p:aC):vC v rank p=(zR v rank p&&wD v rank p.kids):=by cases p;rw[vC];rfl
theorem wC(v rank:Int):∀l:List aC,wD v rank l=l.all (vC v rank)
 |[]=>by simp[wD]
 |p::r=>by simp[wD,wC v rank r]
def tA(k:aA)(v:Int):Sp:=((aF k)[v.toNat]?).getD (-2,-1)
def NQ(k:aA)(at_ v:Int)(q:aE)(a b:Typ):Bool:=
 (!decide (v=q.value)&&(decide ((tA k q.value).1=at_)&&(!decide ((tA k v).1 = -2)&&decide ((tA k v).2=at_))))&&(lO a b &&
  if q.kind=3 then decide (v=q.source)&&(!(bK q.body).contains v && !(bK q.index).contains v) else vC v b.shape.dims.es.length q.body)
def rY(k:aA)(at_ v:Int):Bool:=
 match k.list.es[at_.toNat]?,k.values.es[v.toNat]? with
 |some q,some a=>match k.values.es[q.value.toNat]? with
  |some b=>decide (0<=at_)&&decide (0<=v)&&NQ k at_ v q a b
  |none=>false
 |_,_=>false
def CH(f:Nat->Bool):Nat->Nat->Int
 |_,0 => -1
 |i,n+1=>if f i then i else CH f (i+1) n
def uP(k:aA):List Int:=(List.range k.list.es.length).map fun(i:Nat)=>CH (fun v=>rY k (i:Int) (v:Int)) 0 k.values.es.length
end Go.Tev
end
section
namespace Go.Tev
section
variable{pg:Pg}
theorem c292(hf:pg.fs 292=some cf292)(nl cl:Bool)(es:List aC)(hb:es.length<=big)(g:Nat)(cs:List AV)(hcs:treeL cs=true)(p:aC->Bool)(hp:∀x∈es,Ret pg g (x.av::cs) (.bool (p x))) :
  bR pg 292 [.sl nl (es.map aC.av) cl,.fn g cs] (fun r=>∃i:Int,r = .int .i64 i/\decide (0<=i)=es.any p):=
 pI (f:=292) (esz:=9) (ag:=true) hf aC.av aC.fits_av aC.tree_av nl cl es hb g cs hcs p hp
theorem c273(hf:pg.fs 273=some cf273)(h292:pg.fs 292=some cf292)(nl cl:Bool)(es:List aC)(hb:es.length<=big)(g:Nat)(cs:List AV)(hcs:treeL cs=true)(p:aC->Bool)(hp:∀x∈es,Ret pg g (x.av::cs) (.bool (p x))) :
  Ret pg 273 [.sl nl (es.map aC.av) cl,.fn g cs] (.bool (es.any p)):=
 j8 (n:=292) hf (by simp only[treeL,jX,mV,hcs,aC.treeL_av,Bool.and_true]) (c292 h292 nl cl es hb g cs hcs p hp)
theorem c274(hf:pg.fs 274=some cf274)(p:aC)(v rank:Int)(b:Bool)(h:Ret pg 260 [p.av,.int .i64 v,.int .i64 rank] (.bool b)):Ret pg 274 [p.av,.fp (.int .i64 v),.fp (.int .i64 rank)] (.bool (!b)):=by
 rw[aC.avc]at h
 refine Ret.ofX hf ?_
 unfold cf274
 simp only[go_sem,seval]
 refine aB h (by simp only[go_sem,seval]) rfl ?_
 simp only[go_sem,seval]
theorem c272(A:Ora pg)(hf:pg.fs 272=some cf272)(h108:pg.fs 108=some cf108)(p:aC)(rank:Int):Ret pg 272 [p.av,.int .i64 rank] (.bool (o9 p rank)):=by
 refine Ret.ofX hf ?_
 unfold cf272
 have hb:=p.at_.ok
 cases b1:p.dyn
 case true=>
  simp only[b1,go_sem,seval]
  simp[o9,b1]
 cases b2:decide ((p.at_.es.length:Int)=rank)
 case false=>
  simp only[b1,b2,go_sem,seval]
  simp[o9,b1,b2]
 simp only[b1,b2,go_sem,seval]
 refine bI p.at_.es (fun d r env hp=>env=cf272E0 (.sl p.at_.nl (p.at_.es.map Lin.av) p.at_.cl) (.int .i64 p.at_.es.length) (.int .i64 d.length)/\mB 0 p.at_.es=mB d.length r) ?_ ?_ ?_
 ·exact⟨rfl,rfl⟩
 ·rintro env hp ⟨rfl,hI⟩
  simp only[cf272L0,cf272E0,go_sem,seval]
  simp[o9,b1,b2,hI,mB]
 ·rintro d x r env hp hes ⟨rfl,hI⟩
  have hb2:(d++x::r).length<=big:=by rw[<-hes];exact hb
  have hw:=aQ hb2
  have hget:p.at_.es[d.length]?=some x:=by rw[hes];simp
  have e1:decide ((d.length:Int)<(p.at_.es.length:Int))=true:=by rw[hes];simp;omega
  have hown:o9 p rank=(oD d.length x&&mB (d.length+1) r):=by simp[o9,b1,b2,hI,mB]
  rw[hown]
  have hlen:d.length<=9223372036854775807:=by simp only[big]at hb2;simp at hb2;omega
  have h8:=RX A h108 (d.length:Int) (by omega)
  clear hown hes hb hb2
  cases b3:decide (x.c=0)
  case false=>
   simp only[cf272L0,cf272E0,e1,hget,b3,go_sem,seval]
   refine And.intro (by kernel_rfl) ?_
   simp[oD,b3]
  by_cases hl:x.ts.es.length=1
  case neg=>
   have b4:decide ((x.ts.es.length:Int)=1)=false:=by simp;omega
   have hil:oD d.length x=false:=by
    simp only[oD,b3,Bool.true_and]
    rcases h:x.ts.es with _|⟨t,_|⟨u,s⟩⟩
    ·rfl
    ·rw[h]at hl;simp at hl
    ·rfl
   simp only[cf272L0,cf272E0,e1,hget,b3,b4,go_sem,seval]
   refine And.intro (by kernel_rfl) ?_
   simp[hil]
  obtain⟨t,ht⟩:∃t,x.ts.es=[t]:=by
   rcases h:x.ts.es with _|⟨t,_|⟨u,s⟩⟩
   ·rw[h]at hl;simp at hl
   ·exact⟨t,rfl⟩
   ·rw[h]at hl;simp at hl
  have b4:decide ((x.ts.es.length:Int)=1)=true:=by simp;omega
  have hg0:x.ts.es[0]?=some t:=by rw[ht];rfl
  have hil:oD d.length x=(decide (t.v.bs=wH d.length)&&decide (t.c=1)):=by simp only[oD,b3,Bool.true_and,ht]
  rw[hil]
  clear ht hl
  simp only[cf272L0,cf272E0,e1,hget,b3,b4,hg0,go_sem,seval]
  refine aB h8 (by simp only[go_sem,seval]) rfl ?_
  simp only[aZ.avc,go_sem,seval]
  refine And.intro (by kernel_rfl) ?_
  cases b5:decide (t.v.bs=wH d.length)<;>cases b6:decide (t.c=1)
  all_goals (simp only[b5,b6,hw,go_sem,seval])
  exact⟨rfl,by rw[hI,mB,hil,b5,b6];simp⟩
end
end Go.Tev
end
section
namespace Go.Tev
section
variable{pg:Pg}
theorem c260(A:Ora pg)(hf:pg.fs 260=some cf260)(h272:pg.fs 272=some cf272)(h273:pg.fs 273=some cf273)(h274:pg.fs 274=some cf274)(h292:pg.fs 292=some cf292)(h108:pg.fs 108=some cf108)(v rank:Int) :
  ∀p:aC,p.ok->Ret pg 260 [p.av,.int .i64 v,.int .i64 rank] (.bool (vC v rank p)):=by
 refine aC.ind' fun p ih hp=>?_
 obtain⟨hk,hks⟩:=(aC.ok_iff p).1 hp
 have a1:=c272 A h272 h108 p rank
 have a2:=c273 h273 h292 p.knl p.kcl p.kids hk 274 [.fp (.int .i64 v),.fp (.int .i64 rank)] rfl (fun q => !vC v rank q) (fun q hq=>c274 h274 q v rank _ (ih q hq (hks q hq)))
 rw[aC.avc]at a1
 have hall:(p.kids.any fun q => !vC v rank q) = !p.kids.all (vC v rank):=by
  rw[Bool.eq_iff_iff];simp
 rw[hall]at a2
 rw[KJ,wC]
 refine Ret.ofX hf ?_
 unfold cf260
 clear ih hks hp hk hall
 cases b1:decide (p.op.bs=[114,101,97,100])
 case false=>
  have ho:zR v rank p=true:=by simp[zR,b1]
  rw[ho]
  simp only[b1,go_sem,seval]
  refine cK (a2) (by simp only[ Nat.zero_add,depth,bS,aV,dA,go_sem,seval];rfl) (by first|rfl|simp only[dH]) ?_
  simp only[Bool.not_not,go_sem,seval]
 cases b2:decide (p.value=v)
 case false=>
  have ho:zR v rank p=true:=by simp[zR,b2]
  rw[ho]
  simp only[b1,b2,go_sem,seval]
  refine cK (a2) (by simp only[ Nat.zero_add,depth,bS,aV,dA,go_sem,seval];rfl) (by first|rfl|simp only[dH]) ?_
  simp only[Bool.not_not,go_sem,seval]
 have ho:zR v rank p=o9 p rank:=by simp[zR,b1,b2]
 rw[ho]
 simp only[b1,b2,go_sem,seval]
 refine aB a1 (by simp only[go_sem,seval]) rfl ?_
 cases b3:o9 p rank
 case false=>
  simp only[go_sem,seval]
 simp only[go_sem,seval]
 refine cK (a2) (by simp only[ Nat.zero_add,depth,bS,aV,dA,go_sem,seval];rfl) (by first|rfl|simp only[dH]) ?_
 simp only[Bool.not_not,go_sem,seval]
theorem c316(hf:pg.fs 316=some cf316)(nl cl:Bool)(es:List Int)(hb:es.length<=big)(v:Int) :
  bR pg 316 [.sl nl (es.map aH) cl,.int .i64 v] (fun r=>∃i:Int,r = .int .i64 i/\decide (0<=i)=es.any (fun y=>decide (v=y))):=
 x8 (f:=316) (k:=.bin .eql) hf aH (fun _=>rfl) nl cl es hb (.int .i64 v) (fun y=>decide (v=y)) (by intro kb s h x Q t;simp only[go_sem,seval])
theorem c293(hf:pg.fs 293=some cf293)(h316:pg.fs 316=some cf316)(nl cl:Bool)(es:List Int)(hb:es.length<=big)(v:Int) :
  Ret pg 293 [.sl nl (es.map aH) cl,.int .i64 v] (.bool (es.contains v)):=by
 have e:∀l:List Int,l.contains v=l.any fun y=>decide (v=y):=by
  intro l
  induction l with
  |nil=>rfl
  |cons x r ih=>simp only[List.contains_cons,List.any_cons];rw[ih];rfl
 rw[e]
 exact j8 (n:=316) hf (by simp only[go_sem,seval]) (c316 h316 nl cl es hb v)
end
end Go.Tev
end
section
namespace Go.Tev
def dZ(f:Typ->Int):List Sp->List Typ->List Int
 |s::r,t::q=>(if s.1 = -2 then 0 else f t)::dZ f r q
 |_,_=>[]
theorem GE{h:Hp}{k e:Nat}{l:List Int}{t:Bool}(hg:h.get k=some (e,.blk (l.map aH) 1 false t false))(d:Nat):Tev.snap (d+2) h (.rf k e 0 l.length l.length)=some (.sl false (l.map aH) t,[k]):=by
 obtain⟨cs',h1,h2,h3,h4⟩:=bW (El.ints l)
 rw[i8]at h1
 cases h1
 have h5:=h4 []
 rw[List.append_nil,List.length_map]at h5
 have h6:bJ (Tev.snap (d+1) h) (l.map aH)=some (l.map aH,[]):=cG d h (lH l)
 rw[dA]
 simp[hg,h5,h6,AV.tree]
theorem jE(f:Typ->Int):∀(d:List Sp)(vs:List Typ),d.length<=vs.length->(dZ f d vs).length=d.length
 |[],_,_=>by simp[dZ]
 |s::r,t::q,h=>by simp[dZ,jE f r q (by simpa using h)]
 |s::r,[],h=>by simp at h
theorem lY(f:Typ->Int)(s:Sp):∀(d:List Sp)(vs:List Typ)(t:Typ),vs[d.length]?=some t->dZ f (d++[s]) vs=dZ f d vs++[if s.1 = -2 then 0 else f t]
 |[],[],_,h=>by simp at h
 |[],t' :: q,t,h=>by simp at h;subst h;simp[dZ]
 |s' :: r,t' :: q,t,h=>by
  have:=lY f s r q t (by simpa using h)
  simp[dZ,this]
 |_::_,[],_,h=>by simp at h
def mA(f:Typ->Int)(d:List Sp)(vs:List Typ):List Int:=dZ f d vs++List.replicate (vs.length-d.length) 0
theorem GY(f:Typ->Int)(d:List Sp)(vs:List Typ)(h:d.length<=vs.length):(mA f d vs).length=vs.length:=by
 simp only[mA,List.length_append,List.length_replicate,jE f d vs h];omega
theorem EW(f:Typ->Int)(s:Sp)(d:List Sp)(vs:List Typ)(t:Typ)(ht:vs[d.length]?=some t)(hs:s.1 = -2):mA f (d++[s]) vs=mA f d vs:=by
 have hl:=(List.getElem?_eq_some_iff.1 ht).1
 obtain⟨m,hm⟩:∃m,vs.length-d.length=m+1:=⟨vs.length-d.length-1,by omega⟩
 have hm2:vs.length-(d++[s]).length=m:=by simp;omega
 simp only[mA,lY f s d vs t ht,hm,hm2,if_pos hs,List.append_assoc,List.replicate_succ,List.singleton_append]
theorem GX(f:Typ->Int)(s:Sp)(d:List Sp)(vs:List Typ)(t:Typ)(ht:vs[d.length]?=some t)(hs:¬s.1 = -2) :
  (mA f (d++[s]) vs).map aH=List.take d.length ((mA f d vs).map aH)++[.int .i64 (f t)]++List.drop (d.length+1) ((mA f d vs).map aH):=by
 have hl:=(List.getElem?_eq_some_iff.1 ht).1
 obtain⟨m,hm⟩:∃m,vs.length-d.length=m+1:=⟨vs.length-d.length-1,by omega⟩
 have hm2:vs.length-(d++[s]).length=m:=by simp;omega
 have hA:=jE f d vs (by omega)
 simp only[mA,lY f s d vs t ht,hm,hm2,if_neg hs,List.replicate_succ,List.map_append,List.map_cons,List.map_nil]
 rw[List.take_append_of_le_length (by simp[hA]),List.drop_append,List.take_of_length_le (by simp[hA]),List.drop_of_length_le (by simp[hA])]
 simp[hA,aH]
section
variable{pg:Pg}
end
end Go.Tev
end
section
namespace Go.Tev
structure PW(ins:Nat)(m:Nat)(n:Nat)(s:Sp):Prop where
 inp:n<ins->s.1 = -1 /\ -1<=s.2
 own:ins<=n->s.1 = -2\/(0<=s.1/\s.1<(m:Int))
 lo : -2<=s.2
 hi:s.2<(m:Int)
theorem CS{ins V:Nat}:∀(d:List aE)(n:Nat)(s:Sp),(eU (bU V ins) 0 d)[n]?=some s->PW ins d.length n s:=by
 intro d
 induction hn:d.length generalizing d with
 |zero=>
  obtain rfl:=List.length_eq_zero_iff.1 hn
  intro n s h
  rw[eU]at h
  rcases BH V ins n s h with ⟨h1,rfl⟩|⟨h1,rfl⟩
  ·exact⟨fun _=>by simp,fun h=>by omega,by simp,by simp⟩
  ·exact⟨fun h=>by omega,fun _ => .inl rfl,by simp,by simp⟩
 |succ m ih=>
  obtain⟨d',q,rfl⟩:∃d' q,d=d'++[q]:=by
   rcases List.eq_nil_or_concat d with h|⟨d',q,h⟩
   ·subst h;simp at hn
   ·exact⟨d',q,by simpa using h⟩
  have hl:d'.length=m:=by simpa using hn
  intro n s h
  rw[nU,Nat.zero_add]at h
  have hlt:n<(eU (bU V ins) 0 d').length:=by
   have:=(List.getElem?_eq_some_iff.1 h).1
   rwa [tC]at this
  obtain⟨s',h1,h2,h3,h4⟩:=BF (eU (bU V ins) 0 d') d'.length q n _ (List.getElem?_eq_getElem hlt)
  rw[h]at h1
  cases h1
  have I:=ih d' hl n _ (List.getElem?_eq_getElem hlt)
  generalize (eU (bU V ins) 0 d')[n]=s0 at *
  rw[hl]at h2 h3
  have hs2:s.2=(m:Int)\/s.2=s0.2:=by
   by_cases hu:uses q n
   ·exact .inl (h3 hu)
   ·exact .inr (h4 hu)
  obtain⟨i1,i2,i3,i4⟩:=I
  refine⟨fun h=>?_,fun h=>?_,?_,?_⟩
  ·obtain⟨a,b⟩:=i1 h
   rw[if_neg (by rintro⟨_,c⟩;omega)]at h2
   exact⟨by omega,by rcases hs2 with e|e<;>omega⟩
  ·have:=i2 h
   split at h2<;>omega
  ·rcases hs2 with e|e<;>omega
  ·rcases hs2 with e|e<;>omega
structure R9(k:aA)(n:Nat)(s:Sp):Prop where
 fst:s.1 = -2\/(-1<=s.1/\s.1<(k.list.es.length:Int)+1)
 snd : -2<=s.2/\s.2<=(k.list.es.length:Int)
 inp:(s.1 ≠ -2/\s.1 <= -1 /\ -1<=s.2)↔(n:Int)<k.inputs
 res:s.2=(k.list.es.length:Int)↔n∈k.results.es.map Int.toNat
theorem P0{k:aA}(h0:0<=k.inputs){n:Nat}{s:Sp}(h:(aF k)[n]?=some s):R9 k n s:=by
 rw[BE,Option.map_eq_some_iff]at h
 obtain⟨s0,h1,h2⟩:=h
 have I:=CS k.list.es n s0 h1
 obtain⟨i1,i2,i3,i4⟩:=I
 have hfst:s.1=s0.1:=by rw[<-h2];split<;>rfl
 have hsnd:(n∈k.results.es.map Int.toNat/\s.2=(k.list.es.length:Int))\/(n ∉ k.results.es.map Int.toNat/\s.2=s0.2):=by
  rw[<-h2]
  split
  ·rename_i hh;exact .inl ⟨hh,rfl⟩
  ·rename_i hh;exact .inr ⟨hh,rfl⟩
 refine⟨?_,?_,?_,?_⟩
 ·rcases Nat.lt_or_ge n k.inputs.toNat with c|c
  ·have:=i1 c;omega
  ·have:=i2 c;omega
 ·rcases hsnd with ⟨_,e⟩|⟨_,e⟩<;>omega
 ·constructor
  ·rintro⟨a,b,c⟩
   rcases Nat.lt_or_ge n k.inputs.toNat with d|d
   ·omega
   ·have:=i2 d;omega
  ·intro hn
   have:=i1 (by omega)
   rcases hsnd with ⟨_,e⟩|⟨_,e⟩<;>omega
 ·rcases hsnd with ⟨a,e⟩|⟨a,e⟩
  ·exact⟨fun _=>a,fun _=>e⟩
  ·exact⟨fun h=>by omega,fun h=>absurd h a⟩
end Go.Tev
end
section
namespace Go.Tev
theorem KU{k:aA}{at_ v:Nat}{q:aE}{a b:Typ}(hq:k.list.es[at_]?=some q)(ha:k.values.es[v]?=some a)(hb:k.values.es[q.value.toNat]?=some b):rY k at_ v=NQ k at_ v q a b:=by
 have h1:decide (0<=(at_:Int))=true:=by simp
 have h2:decide (0<=(v:Int))=true:=by simp
 simp only[rY,Int.toNat_natCast,hq,ha,hb,h1,h2,Bool.true_and]
theorem vN{k:aA}{v:Int}{s:Sp}(h:(aF k)[v.toNat]?=some s):tA k v=s:=by simp[tA,h]
structure SC(k:aA)(at_ v:Nat)(q:aE)(a b:Typ)(s1 s2:Sp):Prop where
 hq:k.list.es[at_]?=some q
 ha:k.values.es[v]?=some a
 hb:k.values.es[q.value.toNat]?=some b
 h1:(aF k)[q.value.toNat]?=some s1
 h2:(aF k)[v]?=some s2
 q0:0<=q.value
 f2 : -2<=s2.1
 mem:q∈k.list.es
theorem QE{k:aA}(ok:lN k){at_ v:Nat}(ha:at_<k.list.es.length)(hv:v<k.values.es.length):∃q a b s1 s2,SC k at_ v q a b s1 s2:=by
 obtain⟨i0,i1⟩:=ok.inp
 have hsl:=kX (k:=k) (by omega)
 have hg:k.list.es[at_]?=some k.list.es[at_]:=List.getElem?_eq_getElem ha
 have hsplit:k.list.es=k.list.es.take at_++k.list.es[at_]::k.list.es.drop (at_+1):=by
  rw[<-List.drop_eq_getElem_cons ha,List.take_append_drop]
 obtain⟨w1,w2,_⟩:=mJ (ok.ker _ _ _ hsplit)
 have hs2:(aF k)[v]?=some (aF k)[v]:=List.getElem?_eq_getElem (by omega)
 have hE:=(P0 i0 hs2).fst
 exact⟨_,_,_,_,_,hg,List.getElem?_eq_getElem hv,List.getElem?_eq_getElem (by omega),List.getElem?_eq_getElem (by omega),hs2,by omega,by omega,List.getElem_mem ha⟩
section
variable{pg:Pg}
set_option maxHeartbeats 4000000 in
theorem c275(hf:pg.fs 275=some cf275)(h65:∀x y:Typ,Ret pg 65 [x.av,y.av] (.bool (lO x y)))(h48:∀p:aC,p.ok->p.sz<=big->bR pg 48 [p.av] (kV 1 false ((bK p).map aH)))
  (h293:∀(nl cl:Bool)(es:List Int),es.length<=big->∀v:Int,Ret pg 293 [.sl nl (es.map aH) cl,.int .i64 v] (.bool (es.contains v)))
  (h260:∀(v rank:Int)(p:aC),p.ok->Ret pg 260 [p.av,.int .i64 v,.int .i64 rank] (.bool (vC v rank p))) (k:aA) (ok:lN k)
  (hk:∀q∈k.list.es,q.body.ok/\q.index.ok/\q.body.sz+q.index.sz+1<=big) (nl cl:Bool) (at_ v:Nat) (hat:at_<k.list.es.length) (hv:v<k.values.es.length) :
  Ret pg 275 [k.av,.sl nl ((aF k).map bV) cl,.int .i64 at_,.int .i64 v] (.bool (rY k at_ v)):=by
 obtain⟨q,a,b,s1,s2,M⟩:=QE ok hat hv
 obtain⟨m1,m2,m3,m4,m5,m6,m7,m8⟩:=M
 obtain⟨k1,k2,k3⟩:=hk q m8
 rw[KU m1 m2 m3]
 simp only[NQ,vN m4,vN (v:=(v:Int)) (by simpa using m5)]
 have a65:=h65 a b
 have a48:=h48 q.body k1 (by omega)
 have b48:=h48 q.index k2 (by omega)
 have l1:=iC q.body
 have l2:=iC q.index
 have a260:=h260 v b.shape.dims.es.length q.body k1
 have m6':(0<=q.value)=True:=eq_true m6
 rw[aC.avc]at a48 b48 a260
 clear h65 h48 h260 hk ok m7 m8 k1 k2
 refine Ret.ofX hf ?_
 unfold cf275
 cases b1:decide ((v:Int)=q.value)
 case true=>
  simp only[m1,m2,m3,m4,m5,m6',b1,bV,go_sem,seval]
  first|kernel_rfl|(refine And.intro (by kernel_rfl) ?_;simp only[go_sem,seval])
 cases b2:decide (s1.1=(at_:Int))
 case false=>
  simp only[m1,m2,m3,m4,m5,m6',b1,b2,bV,go_sem,seval]
  first|kernel_rfl|(refine And.intro (by kernel_rfl) ?_;simp only[go_sem,seval])
 cases b3:decide (s2.1 = -2)
 case true=>
  simp only[m1,m2,m3,m4,m5,m6',b1,b2,b3,bV,go_sem,seval]
  first|kernel_rfl|(refine And.intro (by kernel_rfl) ?_;simp only[go_sem,seval])
 cases b4:decide (s2.2=(at_:Int))
 case false=>
  simp only[m1,m2,m3,m4,m5,m6',b1,b2,b3,b4,bV,go_sem,seval]
  first|kernel_rfl|(refine And.intro (by kernel_rfl) ?_;simp only[go_sem,seval])
 simp only[m1,m2,m3,m4,m5,m6',b1,b2,b3,b4,bV,go_sem,seval]
 refine aB a65 (by simp only[go_sem,seval]) rfl ?_
 cases b5:lO a b
 case false=>
  simp only[go_sem,seval]
  first|kernel_rfl|(refine And.intro (by kernel_rfl) ?_;simp only[go_sem,seval])
 simp only[go_sem,seval]
 refine And.intro (by kernel_rfl) ?_
 by_cases h6:q.kind=3
 ·have b6:decide (q.kind=3)=true:=decide_eq_true h6
  rw[if_pos h6]
  cases b7:decide ((v:Int)=q.source)
  case false=>
   simp only[b6,b7,go_sem,seval]
  simp only[b6,b7,go_sem,seval]
  refine u4 a48 (by simp only[go_sem,seval]) ?_
  intro nl1 cl1 _
  simp only[go_sem,seval]
  refine aB (h293 nl1 cl1 _ (by omega) v) (by simp only[go_sem,seval]) rfl ?_
  cases b8:(bK q.body).contains (v:Int)
  case true=>
   simp only[go_sem,seval]
  simp only[go_sem,seval]
  refine u4 b48 (by simp only[go_sem,seval]) ?_
  intro nl2 cl2 _
  simp only[go_sem,seval]
  refine aB (h293 nl2 cl2 _ (by omega) v) (by simp only[go_sem,seval]) rfl ?_
  simp only[go_sem,seval]
 ·have b6:decide (q.kind=3)=false:=decide_eq_false h6
  rw[if_neg h6]
  simp only[b6,m3,m6',go_sem,seval]
  refine aB a260 (by simp only[go_sem,seval]) rfl ?_
  simp only[go_sem,seval]
  first|kernel_rfl|(refine And.intro (by kernel_rfl) ?_;simp only[go_sem,seval])
end
end Go.Tev
end
section
namespace Go.Tev
def lS(k:aA)(at_ v:Int):Bool:=decide ((cH k).2=0)&&rY k at_ v
theorem pC{k:aA}{at_ v:Int}(h:¬(0<=at_/\at_<k.list.es.length/\0<=v/\v<k.values.es.length)):rY k at_ v=false:=by
 cases hm:rY k at_ v with
 |false=>rfl
 |true=>
  simp only[rY]at hm
  split at hm
  ·rename_i q a hq ha
   split at hm
   ·simp only[Bool.and_eq_true,decide_eq_true_eq]at hm
    have h1:=(List.getElem?_eq_some_iff.1 hq).1
    have h2:=(List.getElem?_eq_some_iff.1 ha).1
    exact absurd ⟨hm.1.1,by omega,hm.1.2,by omega⟩ h
   ·cases hm
  ·cases hm
section
variable{pg:Pg}
theorem qZ(l:List Sp):treeL (l.map bV)=true:=aU (f:=bV) (fun s=>by simp[bV,go_sem]) _
attribute [go_sem] qZ
set_option maxHeartbeats 4000000 in
theorem c264(hf:pg.fs 264=some cf264)(k:aA)(h9:bR pg 9 [k.av] (gF k))
  (h275:lN k->∀(nl cl:Bool)(at_ v:Nat),at_<k.list.es.length->v<k.values.es.length->Ret pg 275 [k.av,.sl nl ((aF k).map bV) cl,.int .i64 at_,.int .i64 v] (.bool (rY k at_ v)))
  (at_ v:Int):Ret pg 264 [k.av,.int .i64 at_,.int .i64 v] (.bool (lS k at_ v)):=by
 obtain⟨r9,hr9,hs9⟩:=h9
 rw[aA.avc]at hr9
 refine Ret.ofX hf ?_
 unfold cf264
 rcases nA (k:=k) with hc|hc
 case inr=>
  rw[gF,if_neg (by omega)]at hs9
  subst hs9
  have:lS k at_ v=false:=by simp[lS,hc]
  rw[this]
  simp only[go_sem,seval]
  refine aB hr9 (by simp only[go_sem,seval]) rfl ?_
  simp only[go_sem,seval]
 have ok:=eN hc
 rw[gF,if_pos hc]at hs9
 subst hs9
 have hm:lS k at_ v=rY k at_ v:=by simp[lS,hc]
 rw[hm]
 simp only[go_sem,seval]
 refine aB hr9 (by simp only[go_sem,seval]) (by first|rfl|simp[AV.tree,qZ]) ?_
 cases b1:decide (0<=at_)
 case false=>
  rw[pC (by simp at b1;omega)]
  simp only[b1,go_sem,seval]
 cases b2:decide (at_<(k.list.es.length:Int))
 case false=>
  rw[pC (by simp at b2;omega)]
  simp only[b1,b2,go_sem,seval]
 cases b3:decide (0<=v)
 case false=>
  rw[pC (by simp at b3;omega)]
  simp only[b1,b2,b3,go_sem,seval]
 cases b4:decide (v<(k.values.es.length:Int))
 case false=>
  rw[pC (by simp at b4;omega)]
  simp only[b1,b2,b3,b4,go_sem,seval]
 obtain⟨n,rfl⟩:∃n:Nat,at_=n:=⟨at_.toNat,by simp at b1;omega⟩
 obtain⟨m,rfl⟩:∃m:Nat,v=m:=⟨v.toNat,by simp at b3;omega⟩
 have h:=h275 ok false false n m (by simp at b2;omega) (by simp at b4;omega)
 rw[aA.avc]at h
 simp only[b1,b2,b3,b4,go_sem,seval]
 refine aB h (by simp only[go_sem,seval]) rfl ?_
 simp only[go_sem,seval]
end
end Go.Tev
end
section
namespace Go.Tev
def OC(k:aA)(i:Nat):Int:=CH (fun v=>rY k (i:Int) (v:Int)) 0 k.values.es.length
section
variable{pg:Pg}
end
end Go.Tev
end
section
namespace Go.Tev
def qX(ds:List Val)(v:List UInt8):Option Val:=ds.find? (fun x=>decide (x.v.bs=v))
def kR(ds:List Val):Int->List aZ->Int×Int
 |n,[]=>(n,0)
 |n,c::r=>match qX ds c.v.bs with
  |none=>(0,7)
  | some v=>if decide (v.n < -1000000000)||decide (1000000000<v.n) then (0,2) else kR ds (wr .i64 (n+wr .i64 (c.c*v.n))) r
def bZ(ds:List Val)(l:Lin):Int×Int:=if iM l then kR ds l.c l.ts.es else (0,1)
theorem CO{ds:List Val}{n:Int}{c:aZ}{r:List aZ}(h:qX ds c.v.bs=none):kR ds n (c::r)=(0,7):=by
 simp only[kR,h]
theorem CN{ds:List Val}{n:Int}{c:aZ}{r:List aZ}{v:Val}(h:qX ds c.v.bs=some v) :
  kR ds n (c::r)=(if decide (v.n < -1000000000)||decide (1000000000<v.n) then (0,2) else kR ds (wr .i64 (n+wr .i64 (c.c*v.n))) r):=by
 simp only[kR,h]
section
variable{pg:Pg}
theorem KY{f:Nat}{esz:Nat}{ag:Bool}(hf:pg.fs f=some (KZ esz ag)){α : Type}(enc : α -> AV)(hfit:∀x,(enc x).fits esz ag=true)(htree:∀x,(enc x).tree=true)
  (nl cl:Bool) (es:List α) (hb:es.length<=big) (g:Nat) (cs:List AV) (hcs:treeL cs=true) (p : α -> Bool) (hp:∀x∈es,Ret pg g (enc x::cs) (.bool (p x))) :
  bR pg f [.sl nl (es.map enc) cl,.fn g cs] (fun r=>∃i:Int,r = .int .i64 i/\((i<0/\es.find? p=none)\/(0<=i/\∃x,es[i.toNat]?=some x/\es.find? p=some x))):=by
 refine bR.ofX hf ?_
 unfold KZ
 simp only[go_sem,seval]
 refine bX es (fun d e=>cD e (some 8) (.int .i64 d.length)) (fun d r hp=>es.find? p=r.find? p) rfl ?_ ?_ ?_
 ·rfl
 ·intro hp' hI
  simp only[AE,AD,go_sem,seval]
  simp[hI]
 ·intro d x r hp' hes hI
  have hx0:(d++x::r)[d.length]?=some x:=by simp
  subst hes
  simp only[AE,AD,hfit,go_sem,seval]
  refine aB (hp x (by simp)) (by simp only[treeL,htree,hcs,List.cons_append,List.nil_append,Bool.and_true]) rfl ?_
  simp only[go_sem,seval]
  cases hx:p x
  ·simp only[aQ hb,go_sem,seval]
   rw[hI];simp[hx]
  ·simp only[go_sem,seval]
   exact .inr (by rw[hI];simp[hx])
theorem YM(hf:pg.fs 52=some cf52)(h53:pg.fs 53=some cf53)(nl cl:Bool)(ds:List Val)(hb:ds.length<=big)(c:aZ) :
  bR pg 52 [.sl nl (ds.map Val.av) cl,.fn 53 [.fp c.av]] (fun r=>∃i:Int,r = .int .i64 i/\((i<0/\qX ds c.v.bs=none)\/(0<=i/\∃x,ds[i.toNat]?=some x/\qX ds c.v.bs=some x))):=
 KY (f:=52) (esz:=2) (ag:=true) hf Val.av (fun _=>by simp only[go_sem,seval]) (fun _=>by simp only[go_sem,seval]) nl cl ds hb 53 [.fp c.av] (by simp only[go_sem,seval]) (fun v=>decide (v.v.bs=c.v.bs)) (fun v _=>c53 h53 c v)
theorem YR(hf:pg.fs 32=some cf32)(h51:∀l:Lin,Ret pg 51 [l.av] (.bool (iM l)))(h52:pg.fs 52=some cf52)(h53:pg.fs 53=some cf53)(l:Lin)(nl cl:Bool)(ds:List Val)(hb:ds.length<=big) :
  Ret pg 32 [l.av,.sl nl (ds.map Val.av) cl] (.tup [.int .i64 (bZ ds l).1,.int .i64 (bZ ds l).2]):=by
 refine Ret.ofX hf ?_
 unfold cf32
 have hlb:=l.ts.ok
 simp only[go_sem,seval]
 refine aB (h51 l) (by simp only[go_sem,seval]) rfl ?_
 simp only[go_sem,seval]
 cases hx:iM l
 ·simp only[go_sem,seval]
  simp[bZ,hx]
 have hev:bZ ds l=kR ds l.c l.ts.es:=by simp[bZ,hx]
 rw[hev]
 simp only[go_sem,seval]
 refine bI l.ts.es (fun d r env hp=>∃n:Int,env=cf32E0 (.sl nl (ds.map Val.av) cl) (.int .i64 n) (.sl l.ts.nl (l.ts.es.map aZ.av) l.ts.cl) (.int .i64 l.ts.es.length) (.int .i64 d.length)/\kR ds l.c l.ts.es=kR ds n r) ?_ ?_ ?_
 ·exact⟨_,rfl,rfl⟩
 ·rintro env hp ⟨n,rfl,hI⟩
  rw[hI]
  simp only[cf32L0,cf32E0,kR,go_sem,seval]
 ·rintro d x r env hp hes ⟨n,rfl,hI⟩
  obtain⟨hget,e1,e2,ew⟩:=mF hes hlb
  rw[hI]
  obtain⟨r52,hr52,i,rfl,hi⟩:=YM h52 h53 nl cl ds hb x
  simp only[cf32L0,cf32E0,hget,e1,e2,go_sem,seval]
  refine cK (hr52) (by simp only[ aZ.avc,depth,bS,aV,dA,go_sem,seval];rfl) (by first|rfl|simp only[dH]) ?_
  simp only[go_sem,seval]
  rcases hi with ⟨h1,h2⟩|⟨h1,v,hv,h2⟩
  ·have b1:decide (i<0)=true:=by simpa using h1
   rw[CO h2]
   simp only[b1,go_sem,seval]
  ·have b1:decide (i<0)=false:=by simp;omega
   have h0t:(0<=i)=True:=eq_true h1
   rw[CN h2]
   simp only[b1,hv,h0t,go_sem,seval]
   cases b2:decide (v.n < -1000000000)
   case true=>
    simp only[b2,go_sem,seval]
   cases b3:decide (1000000000<v.n)
   case true=>
    simp only[b2,b3,go_sem,seval]
   simp only[b2,b3,hv,h0t,ew,go_sem,seval]
   exact⟨by kernel_rfl,_,rfl,rfl⟩
def lZ(ds:List Val):Int->Bool->List Lin->Int×Bool
 |n,b,[]=>(n,b)
 |n,b,l::r=>lZ ds (C4 (bZ ds l).1 n) (b&&(decide (0<=(bZ ds l).1)&&decide ((bZ ds l).1<=4096))) r
def eQ(ds:List Val)(t:Typ):Int×Bool:=((lZ ds 1 true t.shape.dims.es).1,(lZ ds 1 true t.shape.dims.es).2&&decide ((lZ ds 1 true t.shape.dims.es).1<=4096))
theorem YQ(hf:pg.fs 33=some cf33)(h32:∀(l:Lin) (nl cl:Bool) (ds:List Val),ds.length<=big->Ret pg 32 [l.av,.sl nl (ds.map Val.av) cl] (.tup [.int .i64 (bZ ds l).1,.int .i64 (bZ ds l).2]))(t:Typ)(nl cl:Bool)(ds:List Val)(hb:ds.length<=big) :
  Ret pg 33 [t.av,.sl nl (ds.map Val.av) cl] (.tup [.int .i64 (eQ ds t).1,.bool (eQ ds t).2]):=by
 refine Ret.ofX hf ?_
 unfold cf33
 have hlb:=t.shape.dims.ok
 simp only[go_sem,seval]
 refine bI t.shape.dims.es (fun d r env hp=>∃(n:Int)(b:Bool),env=cf33E0 (.sl nl (ds.map Val.av) cl) (.int .i64 n) (.bool b) (.sl t.shape.dims.nl (t.shape.dims.es.map Lin.av) t.shape.dims.cl) (.int .i64 t.shape.dims.es.length) (.int .i64 d.length)/\lZ ds 1 true t.shape.dims.es=lZ ds n b r) ?_ ?_ ?_
 ·exact⟨_,_,rfl,rfl⟩
 ·rintro env hp ⟨n,b,rfl,hI⟩
  have h1:eQ ds t=(n,b&&decide (n<=4096)):=by simp only[eQ,hI,lZ]
  rw[h1]
  cases b
  ·simp only[cf33L0,cf33E0,go_sem,seval]
  ·simp only[cf33L0,cf33E0,go_sem,seval]
 ·rintro d x r env hp hes ⟨n,b,rfl,hI⟩
  obtain⟨hget,e1,e2,ew⟩:=mF hes hlb
  have hr32:=h32 x nl cl ds hb
  simp only[lZ]at hI
  generalize (bZ ds x).1=a32 at hr32 hI
  generalize (bZ ds x).2=b32 at hr32
  rw[Lin.avc]at hr32
  simp only[cf33L0,cf33E0,hget,e1,e2,go_sem,seval]
  refine aB hr32 (by simp only[go_sem,seval]) rfl ?_
  cases b
  ·simp only[ew,mx2,mn2,go_sem,seval]
   exact⟨C4 a32 n,false,rfl,by simpa using hI⟩
  ·cases b1:decide (0<=a32)
   ·simp only[b1,ew,mx2,mn2,go_sem,seval]
    exact⟨C4 a32 n,false,rfl,by simpa[b1] using hI⟩
   ·simp only[b1,ew,mx2,mn2,go_sem,seval]
    exact⟨C4 a32 n,decide (a32<=4096),rfl,by simpa[b1] using hI⟩
end
end Go.Tev
end
