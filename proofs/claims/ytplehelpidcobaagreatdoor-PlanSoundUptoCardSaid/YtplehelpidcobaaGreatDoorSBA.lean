import Derived.Test.YtplehelpidcobaaGreatDoorSAZ
set_option linter.all false
section
namespace Go.Tev
theorem qD:∀a b:List UInt8,(Op.bytesLess a b||decide (a=b)) = !Op.bytesLess b a
 |[],[]=>rfl
 |[],_::_=>rfl
 |_::_,[]=>rfl
 |x::r,y::s=>by
  have ih:=qD r s
  simp only[Op.bytesLess]
  by_cases h:x=y
  ·subst h
   simp only[List.cons.injEq,true_and,beq_self_eq_true,Bool.true_and]
   have:decide (x<x)=false:=by simp
   rw[this]
   simpa using ih
  ·have h1:(x==y)=false:=by simpa using h
   have h2:(y==x)=false:=by simpa using fun e=>h e.symm
   have h3:decide (x::r=y::s)=false:=by simp[h]
   rw[h1,h2,h3]
   simp only[Bool.false_and,Bool.or_false]
   have hne:x.toNat≠y.toNat:=fun e=>h (UInt8.toNat_inj.1 e)
   by_cases hl:x<y
   ·have:¬y<x:=by rw[UInt8.lt_iff_toNat_lt]at *;omega
    simp[hl,this]
   ·have:y<x:=by rw[UInt8.lt_iff_toNat_lt]at *;omega
    simp[hl,this]
theorem DM(h:Hp)(nl cl:Bool)(n:Nat)(hn:n<256):FG h [.sl nl [.int .u8 (n:Int)] cl]=some (.str [UInt8.ofNat n],.pat [] []):=by
 have h1:(0<=(n:Int)/\(n:Int)<=255):=by omega
 simp[FG,aP,bG,mI,AV.fits,AV.cells,bU,AV.one,h1]
section
variable{pg:Pg}
theorem c163(hf:pg.fs 163=some cf163)(i:Nat)(hi:i<10):Ret pg 163 [.int .i64 i] (.str [UInt8.ofNat (48+i)]):=by
 refine Ret.ofX hf ?_
 have h1:((i:Int).tmod 10)=(i:Int):=by
  rw[Int.tmod_eq_emod_of_nonneg (by omega)];omega
 have h2:wr .i64 (48+(i:Int))=((48+i:Nat):Int):=by rw[aV (by omega) (by omega)];omega
 have h3:wr .u8 (((48+i:Nat):Int))=((48+i:Nat):Int):=by
  simp only[wr];rw[if_pos (by omega)]
 have h4:(i:Int).tdiv 10=0:=by
  rw[Int.tdiv_eq_ediv_of_nonneg (by omega)];omega
 have h5:wr .i64 0=0:=rfl
 have h6:=fun h nl cl=>DM h nl cl (48+i) (by omega)
 have h7:((10:Int)=0)=False:=by simp
 unfold cf163
 simp only[h1,h2,h3,h4,h5,h7,↓h6,go_sem,seval]
 rw[mJ]
 simp only[cf163L0,cf163M0,go_sem,seval]
theorem c122(hf:pg.fs 122=some cf122)(h163:pg.fs 163=some cf163)(i:Nat)(hi:i<10):Ret pg 122 [.int .i64 i] (.str (rA i)):=by
 have a:=c163 h163 i hi
 have h1:decide ((i:Int)<0)=false:=by simp
 refine Ret.ofX hf ?_
 unfold cf122
 simp only[h1,go_sem,seval]
 refine aB a (by simp only[go_sem,seval]) rfl ?_
 simp only[go_sem,seval]
 rfl
theorem u7(t:Typ)(vars:List Str):fB t vars=(p9 t&&(decide (t.shape.row.bs=[])&&((decide (t.elem.bs=[105,110,116])||decide (t.elem.bs=[98,111,111,108]))&&bX t.shape.dims.es vars))):=by
 simp only[fB,p9]
 by_cases h1:t.elem.bs=[105,110,116]
 ·have:fK t.elem.bs=false:=by rw[h1];rfl
  rw[this,h1]
  simp only[decide_true,Bool.true_or,Bool.true_and,Bool.not_false,Bool.and_true]
  (refine Bool.eq_iff_iff.2 ?_;simp only[Bool.and_eq_true];constructor<;>(intro h;simp only[h,and_self]))
 by_cases h2:t.elem.bs=[98,111,111,108]
 ·have:fK t.elem.bs=false:=by rw[h2];rfl
  rw[this,h2]
  simp only[decide_true,Bool.true_or,Bool.or_true,Bool.true_and,Bool.not_false,Bool.and_true]
  (refine Bool.eq_iff_iff.2 ?_;simp only[Bool.and_eq_true];constructor<;>(intro h;simp only[h,and_self]))
 ·simp only[h1,h2,decide_false,Bool.false_or,Bool.false_and,Bool.and_false]
  cases fK t.elem.bs<;>simp
theorem GC{p:List Str}{x:Str}{r:List Str}:kV p (x::r)=(fT x.bs && !xC x.bs&&(match p.getLast? with|none=>true|some q=>Op.bytesLess q.bs x.bs)&&kV (p++[x]) r):=rfl
set_option maxHeartbeats 1000000 in
theorem c49(hf:pg.fs 49=some cf49)(h77:∀s:Str,Ret pg 77 [.str s.bs] (.bool (fT s.bs)))(h78:pg.fs 78=some cf78)(h79:∀t:Typ,Ret pg 79 [t.av] (.bool (p9 t)))
  (h80:∀(nl cl:Bool)(ls:List Lin),ls.length<=big->∀(nl' cl':Bool)(vars:List Str),vars.length<=big->Ret pg 80 [.sl nl (ls.map Lin.av) cl,.sl nl' (vars.map Str.av) cl'] (.bool (bX ls vars)))
  (k:aA):Ret pg 49 [k.av] (.bool (aZ k)):=by
 have hb:=k.vars.ok
 have hbl:=k.values.ok
 have hov:=h80 k.wher.nl k.wher.cl k.wher.es k.wher.ok k.vars.nl k.vars.cl k.vars.es k.vars.ok
 refine Ret.ofX hf ?_
 unfold cf49
 simp only[go_sem,seval]
 refine aI k.vars.es (fun d r env hp=>hp.get 1=some (0,.blk k.cells 6 true true false)/\env=cf49E0 (.pt 1 0 0) (.int .i64 d.length)/\kV [] k.vars.es=kV d r) ?_ ?_ ?_
 ·exact⟨rfl,rfl,rfl⟩
 ·rintro env hp ⟨g1,rfl,hI⟩
  have g1':=g1
  simp only[aA.cells,Sl.av]at g1
  simp only[kV]at hI
  simp only[cf49L0,cf49E0,g1,aW,go_sem,seval]
  refine aI k.values.es (fun d r env hp=>hp.get 1=some (0,.blk k.cells 6 true true false)/\env=cf49E1 (.pt 1 0 0) (.int .i64 d.length)/\(k.values.es.all fun t=>fB t k.vars.es)=r.all fun t=>fB t k.vars.es) ?_ ?_ ?_
  ·exact⟨g1',rfl,rfl⟩
  ·clear g1 g1' hp
   rintro env hp ⟨g1,rfl,hJ⟩
   simp only[aA.cells,Sl.av]at g1
   have hJ':(k.values.es.all fun t=>fB t k.vars.es)=true:=by rw[hJ];rfl
   have hs:aZ k=(decide ((k.vars.es.length:Int)<=12)&&(bX k.wher.es k.vars.es&&(decide (0<=k.inputs)&&(decide (k.inputs<=8)&&(decide (k.inputs<=k.values.es.length)&&(decide ((k.values.es.length:Int)<=k.inputs+400)&&decide ((k.list.es.length:Int)<=400))))))):=by
    simp only[aZ,hI,hJ']
    simp[Bool.and_assoc]
   rw[hs]
   clear hs
   cases b1:decide ((k.vars.es.length:Int)<=12)
   ·simp only[cf49L1,cf49E1,g1,aW,b1,go_sem,seval]
   simp only[cf49L1,cf49E1,g1,aW,b1,go_sem,seval]
   refine aB hov (by simp only[go_sem,seval]) rfl ?_
   cases b2:bX k.wher.es k.vars.es
   ·simp only[go_sem,seval]
   cases b3:decide (0<=k.inputs)
   ·simp only[g1,b3,go_sem,seval]
   cases b4:decide (k.inputs<=8)
   ·simp only[g1,b3,b4,go_sem,seval]
   have hw:wr .i64 (k.inputs+400)=k.inputs+400:=by
    have:=of_decide_eq_true b3
    have:=of_decide_eq_true b4
    exact aV (by omega) (by omega)
   cases b5:decide (k.inputs<=(k.values.es.length:Int))
   ·simp only[g1,b3,b4,b5,go_sem,seval]
   cases b6:decide ((k.values.es.length:Int)<=k.inputs+400)
   ·simp only[g1,b3,b4,b5,hw,b6,go_sem,seval]
   ·simp only[g1,b3,b4,b5,hw,b6,go_sem,seval]
  ·clear g1 g1' hp
   rintro d t r env hp hes ⟨g1,rfl,hJ⟩
   have g1':=g1
   simp only[aA.cells,Sl.av]at g1
   obtain⟨hget,e1,e2,ew⟩:=cF hes hbl
   simp only[List.all_cons]at hJ
   have hfalse:fB t k.vars.es=false->aZ k=false:=by
    intro h
    simp only[aZ,hJ,h];simp
   rw[u7]at hfalse
   have a1:=h79 t
   rw[Typ.avc]at a1
   have a2:=h80 t.shape.dims.nl t.shape.dims.cl t.shape.dims.es t.shape.dims.ok k.vars.nl k.vars.cl k.vars.es k.vars.ok
   simp only[cf49L1,cf49E1,g1,hget,e1,e2,go_sem,seval]
   refine aB a1 (by simp only[go_sem,seval]) rfl ?_
   cases c1:p9 t
   ·simp only[go_sem,seval]
    rw[hfalse (by rw[c1];rfl)]
   cases c2:decide (t.shape.row.bs=[])
   ·simp only[c2,go_sem,seval]
    rw[hfalse (by rw[c1,c2];rfl)]
   cases c3:decide (t.elem.bs=[105,110,116])
   ·cases c4:decide (t.elem.bs=[98,111,111,108])
    ·simp only[c2,c3,c4,go_sem,seval]
     rw[hfalse (by rw[c1,c2,c3,c4];rfl)]
    ·simp only[c2,c3,c4,g1,go_sem,seval]
     refine aB a2 (by simp only[go_sem,seval]) rfl ?_
     cases c5:bX t.shape.dims.es k.vars.es
     ·simp only[go_sem,seval]
      rw[hfalse (by rw[c1,c2,c3,c4,c5];rfl)]
     ·simp only[ew,go_sem,seval]
      refine⟨?_,rfl,?_⟩
      ·simp only[g1',go_sem,seval]
      ·rw[hJ,u7,c1,c2,c3,c4,c5];rfl
   ·simp only[c2,c3,g1,go_sem,seval]
    refine aB a2 (by simp only[go_sem,seval]) rfl ?_
    cases c5:bX t.shape.dims.es k.vars.es
    ·simp only[go_sem,seval]
     rw[hfalse (by rw[c1,c2,c3,c5];simp)]
    ·simp only[ew,go_sem,seval]
     refine⟨?_,rfl,?_⟩
     ·simp only[g1',go_sem,seval]
     ·rw[hJ,u7,c1,c2,c3,c5];simp
 ·rintro d x r env hp hes ⟨g1,rfl,hI⟩
  have g1':=g1
  simp only[aA.cells,Sl.av]at g1
  obtain⟨hget,e1,e2,ew⟩:=cF hes hb
  rw[GC]at hI
  have hfalse:kV [] k.vars.es=false->aZ k=false:=by
   intro h
   simp only[aZ,h];simp
  have a1:=h77 x
  have a2:=c78 h78 x.bs x.ok
  simp only[cf49L0,cf49E0,g1,hget,e1,e2,go_sem,seval]
  refine aB a1 (by simp only[go_sem,seval]) rfl ?_
  cases c1:fT x.bs
  ·simp only[go_sem,seval]
   refine And.intro (by kernel_rfl) ?_
   rw[hfalse (by rw[hI,c1];rfl)]
  simp only[g1,hget,e1,e2,go_sem,seval]
  refine aB a2 (by simp only[go_sem,seval]) rfl ?_
  cases c2:xC x.bs
  case true=>
   simp only[go_sem,seval]
   refine And.intro (by kernel_rfl) ?_
   rw[hfalse (by rw[hI,c1,c2];rfl)]
  rcases List.eq_nil_or_concat d with hd|⟨d',q,hd⟩
  ·have e3:decide (0<(d.length:Int))=false:=by simp[hd]
   simp only[e3,ew,go_sem,seval]
   refine⟨by kernel_rfl,g1',rfl,?_⟩
   rw[hI,c1,c2,hd];simp
  ·have hd':d=d'++[q]:=by simpa using hd
   have e3:decide (0<(d.length:Int))=true:=by simp[hd']
   have e4:wr .i64 ((d.length:Int)-1)=(d'.length:Int):=by
    have:d.length<=k.vars.es.length:=by rw[hes];simp
    simp only[big]at hb
    rw[aV (by omega) (by omega),hd',List.length_append,List.length_singleton];omega
   have e5:k.vars.es[d'.length]?=some q:=by rw[hes,hd'];simp
   have e6:((d'.length:Int)<(k.vars.es.length:Int))=True:=eq_true (by rw[hes,hd'];simp;omega)
   have hlast:d.getLast?=some q:=by rw[hd'];simp
   have htot:=qD x.bs q.bs
   rw[hlast]at hI
   dsimp only at hI
   cases hl:Op.bytesLess q.bs x.bs
   ·rw[hl]at htot
    simp only[e3,e4,e5,e6,g1,hget,htot,go_sem,seval]
    refine And.intro (by kernel_rfl) ?_
    rw[hfalse (by rw[hI,c1,c2,hl];rfl)]
   ·rw[hl]at htot
    simp only[e3,e4,e5,e6,g1,hget,htot,ew,go_sem,seval]
    refine⟨by kernel_rfl,rfl,rfl,?_⟩
    rw[hI,c1,c2,hl];rfl
end
end Go.Tev
end
section
namespace Go.Tev
theorem j4{h:Hp}{d:Nat}{a b c e e':AV}{keys:List Nat}(ha:a.tree=true)(hb:b.tree=true)(hc:c.tree=true)(he:Tev.snap (d+1) h e=some (e',keys)):cG (Tev.snap (d+1) h) [a,b,c,e]=some ([a,b,c,e'],keys):=by
 simp[bB,bW,mD ha,mD hb,mD hc,he]
def aX(k:aA):List AV:=
 [.sl k.vars.nl (k.vars.es.map Str.av) k.vars.cl,.sl k.wher.nl (k.wher.es.map Lin.av) k.wher.cl,.int .i64 k.inputs,.sl k.values.nl (k.values.es.map Typ.av) k.values.cl,.sl k.list.nl (k.list.es.map aD.av) k.list.cl,.sl k.results.nl (k.results.es.map aG) k.results.cl]
def MV(p:aC):List AV:=
 [.str p.op.bs,.int .i64 p.num,.int .i64 p.value,.str p.name.bs,.sl p.at_.nl (p.at_.es.map Lin.av) p.at_.cl,.bool p.dyn,.int .i64 p.check,.sl p.fn.nl (p.fn.es.map aJ.av) p.fn.cl,.sl p.knl (p.kids.map aC.av) p.kcl]
section
variable{pg:Pg}
set_option maxHeartbeats 1000000 in
theorem c86(hf:pg.fs 86=some cf86)(h122:∀i:Nat,i<10->Ret pg 122 [.int .i64 i] (.str (rA i)))
  (h123:∀p:aC,p.ok->∀(nl cl:Bool)(vars:List Str),vars.length+p.sz<=big->∀v:Int,Ret pg 123 [p.av,.sl nl (vars.map Str.av) cl,.int .i64 v] (.bool (gN p vars v)))
  (h37:∀p:aC,p.ok->p.sz<=big->bJ pg 37 [p.av] (kO 1 false ((bD p).map aG)))
  (k:aA) (p:aC) (hpo:p.ok) (n:Nat) (hn:n<=9) (hsz:k.vars.es.length+n+p.sz<=big) (nl cl:Bool) (there:List Bool) (hth:there.length=k.values.es.length) :
  Ret pg 86 [p.av,k.av,.int .i64 n,.sl nl (there.map AV.bool) cl] (.bool (bT k p n there)):=by
 refine Ret.ofX hf ?_
 unfold cf86
 simp only[aA.av,aA.cells,go_sem,seval]
 refine fV (kb:=0) (s:=9) (Own.nil _ _ _ _ _ _ rfl) (by simp) (El.strs k.vars.es) (by simp only[List.length_nil,List.length_map];simp only[big]at hsz;omega) (by decide) ?_
 intro v0 rd pa ho0 hk0 _
 have g1:=hk0 1 (by omega)
 have g5:=hk0 5 (by omega)
 simp only[go_sem,seval]at g1 g5
 generalize hH:Eff.app _ (Eff.pat rd pa)=H at ho0 g1 g5 ⊢
 clear hH hk0
 simp only[go_sem,seval]
 refine aI (List.range n) (fun d r env hp=>∃v kk,env=cf86E0 (.int .i64 n) (.sl nl (there.map AV.bool) cl) (.pt 1 0 0) (.pt 5 0 0) v (.int .i64 d.length)/\(kk=9\/kk=17)/\Own hp kk 1 false v ((k.vars.es++d.map t8).map Str.av) /\
  hp.get 1=some (0,.blk (MV p) 9 true true false)/\hp.get 5=some (0,.blk (aX k) 6 true true false)) ?_ ?_ ?_
 ·exact⟨v0,9,rfl,.inl rfl,by simpa using ho0,g1,g5⟩
 ·rintro env hp ⟨v,kk,rfl,hkk,ho,q1,q5⟩
  have hr:(List.range n).length=n:=List.length_range
  rw[hr]
  simp only[MV]at q1
  simp only[aX]at q5
  have ho':Own hp kk 1 false v ((eG k.vars.es n).map Str.av):=ho
  obtain⟨nl8,cl8,keys,hsn,hnl8⟩:=ho'.snap (El.strs _) 62
  have h2:=h123 p hpo nl8 cl8 (eG k.vars.es n) (by simp[eG];omega) k.values.es.length
  rw[aC.avc]at h2
  have h3:=h37 p hpo (by omega)
  rw[aC.avc]at h3
  simp only[cf86L0,cf86E0,q1,q5,aW,go_sem,seval]
  refine bQ h2 (pN (by simp only[go_sem,seval]) hsn (by simp only[go_sem,seval])) (v:=.bool (gN p (eG k.vars.es n) k.values.es.length)) (pa:=[]) rfl ?_
  cases hv:gN p (eG k.vars.es n) k.values.es.length
  ·simp only[go_sem,seval]
   simp only[bT,hv];rfl
  have hspec:bT k p n there=(bD p).all (fun v=>aY there v):=by simp only[bT,hv];rfl
  rw[hspec]
  simp only[q1,go_sem,seval]
  refine j8 h3 (by simp only[go_sem,seval]) ?_
  intro nl9 cl9 hnl9
  simp only[go_sem,seval]
  have hrl:(bD p).length<=big:=by
   have e3:=iL p
   omega
  have hin:∀a∈bD p,0<=a/\a<(there.length:Int):=by
   intro a ha
   rw[iM]at ha
   rw[hth]
   simp only[gN,Bool.and_eq_true]at hv
   exact nL _ p (eG k.vars.es n) hv.2 a ha
  generalize bD p=L at hrl hin ⊢
  refine aI L (fun d r env hp=>env=cf86E1 (.sl nl (there.map AV.bool) cl) (.sl nl9 (L.map aG) cl9) (.int .i64 d.length)/\L.all (fun v=>aY there v)=r.all (fun v=>aY there v)) ?_ ?_ ?_
  ·exact⟨rfl,rfl⟩
  ·rintro env hp ⟨rfl,hI⟩
   simp only[cf86L1,cf86E1,aW,go_sem,seval]
   rw[hI];rfl
  ·rintro d a r env hp hes ⟨rfl,hI⟩
   obtain⟨hget,e1,e2,ew⟩:=cF hes hrl
   obtain⟨z1,z2⟩:=hin a (by rw[hes];simp)
   have z1':(0<=a)=True:=eq_true z1
   have hla:there[a.toNat]?=some (there[a.toNat]'(by omega)):=List.getElem?_eq_getElem (by omega)
   have hta:aY there a=there[a.toNat]'(by omega):=by simp[aY,hla]
   generalize there[a.toNat]'(by omega)=b at hla hta
   rw[hI]
   cases b
   ·simp only[cf86L1,cf86E1,e1,e2,hget,z1',hla,go_sem,seval]
    simp[hta]
   ·simp only[cf86L1,cf86E1,e1,e2,hget,z1',hla,ew,go_sem,seval]
    refine⟨rfl,?_⟩
    simp[hta]
 ·rintro d x r env hp hes ⟨v,kk,rfl,hkk,ho,q1,q5⟩
  obtain⟨hx,hlt⟩:=hZ hes
  have hb2:(d++x::r).length<=big:=by rw[<-hes];simp[big];omega
  have e1:decide ((d.length:Int)<(n:Int))=true:=by simp;omega
  simp only[cf86L0,cf86E0,e1,go_sem,seval]
  refine aB (h122 d.length (by omega)) (by simp only[go_sem,seval]) rfl ?_
  simp only[go_sem,seval]
  refine pY (kb:=0) (s:=17) (k1:=kk) (ho.mono ?_) (El.strs _) (xs:=[.str (rA d.length)]) (by intro y hy;simp at hy;subst hy;exact El.str _) (by simp) ?_ (by omega) ?_
  ·simp only[go_sem,seval]
  ·simp only[List.length_map,List.length_append,List.length_cons,List.length_nil]
   simp only[big]at hsz
   omega
  ·intro v' rd' pa' ho2 hk2
   simp only[aM hb2,go_sem,seval]
   refine⟨v',17,rfl,.inr rfl,?_,?_,?_⟩
   ·rw[hx];simpa[Str.av,t8] using ho2
   ·rw[hk2 1 (by omega) (by omega)];exact q1
   ·rw[hk2 5 (by omega) (by omega)];exact q5
end
end Go.Tev
end
