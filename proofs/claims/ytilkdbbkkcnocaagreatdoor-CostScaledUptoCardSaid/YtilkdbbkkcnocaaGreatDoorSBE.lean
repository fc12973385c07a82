import Derived.Test.YtilkdbbkkcnocaaGreatDoorSBD
import Derived.Test.YtilkdbbkkcnocaaGreatDoorSAW
import Derived.Test.YtilkdbbkkcnocaaGreatDoorSAQ
import Derived.Test.YtilkdbbkkcnocaaGreatDoorSAR
import Derived.Test.YtilkdbbkkcnocaaGreatDoorSAX
import Derived.Test.YtilkdbbkkcnocaaGreatDoorSAS
import Derived.Test.YtilkdbbkkcnocaaGreatDoorSAY
set_option linter.all false
namespace Go.Tev
section
def aQg(fn:List aE)(o:Int):Int:=fn.foldl (λo s=>bif aCo s then o else wr .i64 (o+1)) o
def aCx(fn:List aE)(xs:List Int)(c:Cn):Rs:=bif aMb fn xs then .ok (aMa fn xs) {c with ops:=aQg fn c.ops} else .er 12
inductive Ks where
 |ok (xs:List Int) (c:Cn)
 |er (e:Int)
abbrev EvF:=List Val->Cn->Rs
def UO:List EvF->List Val->List Int->Cn->Ks
 |[],_,acc,c => .ok acc c
 |f::r,env,acc,c=>match f env c with
  |.er e => .er e
  |.ok n c'=>UO r env (acc++[n]) c'
def aCk(fn:List aE)(name:Str)(g:EvF)(env:List Val):Nat->Int->Int->Cn->Rs
 |0,_,acc,c => .ok acc c
 |k+1,i,acc,c=>match g (env++[⟨name,i⟩]) c with
  |.er e => .er e
  |.ok y c'=>match aCx fn [acc,y] c' with
   |.er e => .er e
   |.ok n c''=>aCk fn name g env k (i+1) n c''
def aKy(env:List Val):List Lin->List Int->Option (List Int)
 |[],acc=>some acc
 |l::r,acc=>match aJW env l with|none=>none|some n=>aKy env r (acc++[n])
def TF(dyn:Bool):List Int->List Int->Int
 |x::r,d::s=>if 0<=x/\x<d then TF dyn r s else if dyn=false\/r≠[] then 2 else 1
 |_,_=>0
def aIC(a:Arr)(dyn:Bool)(check:Int)(ix:List Int)(c:Cn):Rs:=
 if (ix.length:Int)≠a.dims.es.length then .er 13 else
 if TF dyn ix a.dims.es=2 then .er 2 else
 if TF dyn ix a.dims.es=1 then .ok 0 {c with rd:=wr .i64 (c.rd+1),vi:=if check=0 then c.vi else c.vi++[check]} else
 .ok (atA a ix).1 {c with rd:=wr .i64 (c.rd+1)}
def aIB(arrs:List Arr)(p:aA)(fs:List EvF)(env:List Val)(c:Cn):Rs:=
 match UO fs env [] c with
 |.er e => .er e
 |.ok last c2=>match aKy env p.at_.es [] with
  |none => .er 3
  |some ix=>match arrs[p.value.toNat]? with
   |none => .er 1
   |some a=>aIC a p.dyn p.check (ix++last) c2
def aGq(env:List Val)(p:aA):Option Int:=match p.at_.es with|l::_=>aJW env l|[]=>none
def aLK(p:aA)(fs:List EvF)(env:List Val)(c:Cn):Rs:=
 match UO fs env [] c with
 |.er e => .er e
 |.ok xs c2=>if p.op.bs=[99,111,100,101] then aCx p.fn.es xs c2 else if W8 p.op.bs xs then .ok (W7 p.op.bs xs) {c2 with ops:=wr .i64 (c2.ops+1)} else .er 12
def ifN(p:aA)(fs:List EvF)(env:List Val)(c:Cn):Rs:=
 match aGq env p with
 |none => .er 3
 |some n=>match fs with|[f,g]=>if 0<=n then f env c else g env c|_ => .er 1
def aMe(p:aA)(fs:List EvF)(env:List Val)(c:Cn):Rs:=
 match fs with
 |[f,g]=>match f env c with
  |.er e => .er e
  |.ok n c2=>match aGq env p with
   |none => .er 3
   |some m=>aCk p.fn.es p.name g env m.toNat 0 n c2
 |_ => .er 1
def aGL(arrs:List Arr)(p:aA)(fs:List EvF)(env:List Val)(c:Cn):Rs:=
 if 1000000<wr .i64 (c.wk+1) then .er 3 else
 if p.op.bs=[99,111,110,115,116] then .ok p.num {c with wk:=wr .i64 (c.wk+1)} else
 if p.op.bs=[108,105,110,101,97,114] then (match aGq env p with|none => .er 3|some n => .ok (yM n) {c with wk:=wr .i64 (c.wk+1)}) else
 if p.op.bs=[114,101,97,100] then aIB arrs p fs env {c with wk:=wr .i64 (c.wk+1)} else
 if p.op.bs=[105,102] then ifN p fs env {c with wk:=wr .i64 (c.wk+1)} else
 if p.op.bs=[114,101,100,117,99,101] then aMe p fs env {c with wk:=wr .i64 (c.wk+1)} else
 aLK p fs env {c with wk:=wr .i64 (c.wk+1)}
mutual
def evU(arrs:List Arr):aA->EvF
 |.mk op num value name at_ dyn check fn knl kids kcl=>aGL arrs (.mk op num value name at_ dyn check fn knl kids kcl) (aKD arrs kids)
def aKD(arrs:List Arr):List aA->List EvF
 |[]=>[]
 |p::r=>evU arrs p::aKD arrs r
end
def SW(c c':Cn):Prop:=(c'.vi.length:Int)+c.wk<=c.vi.length+c'.wk/\c.wk<=c'.wk/\c'.wk<=1000000
theorem SW.refl{c:Cn}(h:c.wk<=1000000):SW c c:=⟨Int.le_refl _,Int.le_refl _,h⟩
theorem SW.trans{a b c:Cn}(h:SW a b)(h':SW b c):SW a c:=by obtain⟨h1,h2,h3⟩:=h;obtain⟨g1,g2,g3⟩:=h';exact⟨by omega,by omega,g3⟩
def aLS(c:Cn):Prop:=0<=c.wk/\(c.vi.length:Int)<=c.wk/\c.wk<=1000000
theorem aLS.room{c:Cn}(h:aLS c):c.vi.length+1<=1073741824:=by obtain⟨h1,h2,h3⟩:=h;omega
section
variable{pg:Pg}
end
end
section
section
variable{pg:Pg}
end
end
section
def eG(x:Loop)(all:List Str):Bool:=
 fT x.v.bs && !cJ all x.v.bs&&(!decide ((x.hi.es.length:Int)<1) && !decide (4<(x.hi.es.length:Int)) && !decide (x.step<1) && !decide (4096<x.step))&&(aY x.hi.es all&&aY [x.lo] all)
def d6:List Loop->List Str->Bool
 |[],_=>true
 |x::r,all=>eG x all&&d6 r (all++[x.v])
def oP(l:List Loop)(vars:List Str)(r:AV):Prop:=
 if d6 l vars=true then ∃nl cl,(nl=true->vars++l.map (·.v)=[])/\r = .tup [.sl nl ((vars++l.map (·.v)).map Str.av) cl,.bool (decide ((l.length:Int)<=12))]
 else r = .tup [.sl true [] true,.bool false]
theorem VR{h:Hp}{v t w:AV}{keys:List Nat}(hw:w.tree=true)(hs:snap 63 h v=some (t,keys)):conv h (.tup [v,w])=some (.tup [t,w]):=by
 show (snap depth h (.tup [v,w])).map (·.1)=_;have e2:snap 63 h w=some (w,[]):=by unfold snap;rw[if_pos hw]
 show (snap 64 h (.tup [v,w])).map (·.1)=_;unfold snap;split;rename_i ht;have hv:v.tree=true:=by simp only[AV.tree,treeL,aD]at ht;exact ht.1
 have e1:snap 63 h v=some (v,[]):=by unfold snap;rw[if_pos hv]
 rw[e1]at hs;cases hs;rfl;simp only[mapS,hs,e2,Option.map_some,Option.map]
section
variable{pg:Pg}
theorem c607(hf:pg.fs 607=some DT)(nl cl:Bool)(es:List aR)(hb:es.length<=big)(g:Nat)(cs:List AV)(hcs:treeL cs=true)(p:aR->Bool)(hp:∀x∈es,Ret pg g (x.av::cs) (.bool (p x))) :
  bV pg 607 [.sl nl (es.map aR.av) cl,.fn g cs] (λr=>∃i:Int,r = .int .i64 i/\decide (0<=i)=es.any p):=
 FM (f:=607) (esz:=2) (ag:=true) hf aR.av aR.fits_av aR.tree_av nl cl es hb g cs hcs p hp
theorem c593(hf:pg.fs 593=some J8)(h607:pg.fs 607=some DT)(nl cl:Bool)(es:List aR)(hb:es.length<=big)(g:Nat)(cs:List AV)(hcs:treeL cs=true)(p:aR->Bool)(hp:∀x∈es,Ret pg g (x.av::cs) (.bool (p x))) :
  Ret pg 593 [.sl nl (es.map aR.av) cl,.fn g cs] (.bool (es.any p)):=
 xW (n:=607) hf (by simp only[treeL,tH,xL,hcs,aR.treeL_av,Bool.and_true]) (c607 h607 nl cl es hb g cs hcs p hp)
theorem c594(hf:pg.fs 594=some DV)(h98:pg.fs 98=some vS)(h138:pg.fs 138=some nB)(nl cl:Bool)(es:List Str)(hb:es.length<=big)(x:aR) :
  Ret pg 594 [x.av,.fp (.sl nl (es.map Str.av) cl)] (.bool (!cJ es x.v.bs)):=by
 refine Ret.ofX hf ?_;unfold DV;refine Wk ?_;refine aC (c98 h98 h138 nl cl es hb x.v.bs) (Wk ?_);rfl
def i8(vars:List Str)(l:Lin):Bool:=eT l&&l.ts.es.all λx=>cJ vars x.v.bs
theorem c592(hf:pg.fs 592=some J9)(h51:∀l:Lin,Ret pg 51 [l.av] (.bool (eT l)))(h593:pg.fs 593=some J8)(h607:pg.fs 607=some DT)(h594:pg.fs 594=some DV)(h98:pg.fs 98=some vS)(h138:pg.fs 138=some nB)
  (nl cl:Bool) (es:List Str) (hb:es.length<=big) (l:Lin):Ret pg 592 [l.av,.fp (.sl nl (es.map Str.av) cl)] (.bool (!i8 es l)):=by
 have a1:=h51 l;have a2:=c593 h593 h607 l.ts.nl l.ts.cl l.ts.es l.ts.ok 594 [.fp (.sl nl (es.map Str.av) cl)] (by simp only[go_sem,seval]) (λx => !cJ es x.v.bs) (λx _=>c594 h594 h98 h138 nl cl es hb x);rw[Lin.avc]at a1;have hany:(l.ts.es.any λx => !cJ es x.v.bs) = !(l.ts.es.all λx=>cJ es x.v.bs):=by simp[List.not_all_eq_any_not]
 rw[hany]at a2;refine Ret.ofX hf ?_;unfold J9;refine Wk ?_;refine aC (a1) ?_;cases b1:eT l;refine Wk ?_;simp[i8,b1];refine Wk ?_;refine aC (a2) (Wk ?_);simp[i8,b1]
theorem c571(hf:pg.fs 571=some KD)(h175:pg.fs 175=some KS)(h205:pg.fs 205=some DZ)(h592:∀(nl cl:Bool) (es:List Str),es.length<=big->∀l:Lin,Ret pg 592 [l.av,.fp (.sl nl (es.map Str.av) cl)] (.bool (!i8 es l)))
  (nl cl:Bool) (ls:List Lin) (hb:ls.length<=big) (nl' cl':Bool) (vars:List Str) (hb':vars.length<=big):Ret pg 571 [.sl nl (ls.map Lin.av) cl,.sl nl' (vars.map Str.av) cl'] (.bool (aY ls vars)):=by
 have a2:=c175 h175 h205 nl cl ls hb 592 [.fp (.sl nl' (vars.map Str.av) cl')] (by simp only[go_sem,seval]) (λl => !i8 vars l) (λl _=>h592 nl' cl' vars hb' l);have hany:(ls.any λl => !i8 vars l) = !aY ls vars:=by simp only[aY];rw[List.not_all_eq_any_not];rfl
 rw[hany]at a2;refine Ret.ofX hf ?_;unfold KD;refine Wk ?_;refine cX a2 (by simp only[depth,eN,bG,fR,go_sem,seval];rfl) (by rfl) (Wk ?_);simp
theorem c570(hf:pg.fs 570=some KE)(h107:pg.fs 107=some A6)(h57:∀s:Str,Ret pg 57 [.str s.bs] (.bool (fT s.bs)))(h98:pg.fs 98=some vS)(h138:pg.fs 138=some nB)
  (h571:∀(nl cl:Bool)(ls:List Lin),ls.length<=big->∀(nl' cl':Bool)(vars:List Str),vars.length<=big->Ret pg 571 [.sl nl (ls.map Lin.av) cl,.sl nl' (vars.map Str.av) cl'] (.bool (aY ls vars)))
  (nl cl:Bool) (l:List Loop) (nl' cl':Bool) (vars:List Str) (hnl':nl'=true->vars=[]) (hb:vars.length+l.length<=big) :
  bV pg 570 [.sl nl (l.map Loop.av) cl,.sl nl' (vars.map Str.av) cl'] (oP l vars):=by
 refine bV.ofX hf ?_;unfold KE;refine Wk ?_;refine HL (c107 h107 nl' cl' (vars.map Str.av) (El.strs vars) (by simp;omega) (by intro h;simp[hnl' h])) (by simp only[go_sem,seval]) (El.strs _) ?_;intro v0 rd pa ho0 hk0 _;refine Wk ?_;clear hk0;generalize hH:Eff.app _ (Eff.pat rd pa)=H at ho0 ⊢;clear hH;refine aQ l (λd r env hp=>∃v kk,env=GQ (.sl nl (l.map Loop.av) cl) v (.sl nl (l.map Loop.av) cl) (.int .i64 l.length) (.int .i64 d.length)/\(kk=1\/kk=25)/\Own hp kk 1 false v ((vars++d.map (·.v)).map Str.av)/\d6 l vars=d6 r (vars++d.map (·.v))) ?_ ?_ ?_;exact⟨v0,1,rfl,.inl rfl,by simpa using ho0,by simp⟩;rintro env hp ⟨v,kk,rfl,hkk,ho,hI⟩;obtain⟨nl8,cl8,keys,hsn,hnl8⟩:=ho.snap (El.strs _) 61;simp only[GP,GQ,Int.lt_irrefl,go_sem,seval];refine⟨_,VR rfl hsn,?_⟩;rw[oP,hI,d6,if_pos rfl];exact⟨nl8,cl8,λh=>by simpa using hnl8 h,rfl⟩;rintro d x r env hp hes ⟨v,kk,rfl,hkk,ho,hI⟩;have hb2:(d++x::r).length<=big:=by rw[<-hes];omega
 obtain⟨hget,e1,e2,ew⟩:=eD hes (by rw[hes];exact hb2);have a57:=h57 x.v;have a98:=c98 h98 h138;have hI2:d6 l vars=(eG x (vars++d.map (·.v))&&d6 r (vars++(d++[x]).map (·.v))):=by rw[hI,d6];simp
 have hbad:eG x (vars++d.map (·.v))=false->oP l vars (.tup [.sl true [] true,.bool false]):=by intro h;rw[oP,hI2,h];rfl
 clear hI;have hl1:(vars++d.map (·.v)).length<=big:=by
  have:l.length=d.length+(r.length+1):=by rw[hes];simp
  simp;omega
 have hl2:(vars++d.map (·.v)).length+1<=big:=by
  have:l.length=d.length+(r.length+1):=by rw[hes];simp
  simp;omega
 generalize hall:vars++d.map (·.v)=all at *;simp only[GP,GQ,e1,e2,hget,go_sem,seval];refine aC (a57) ?_;cases b1:fT x.v.bs
 case false=>refine Wk ?_;exact hbad (by simp[eG,b1])
 refine Wk ?_;generalize hH2:Hp.put (Hp.put hp 5 (hp.next 5) _) 5 (hp.next 5) _=H2;have q5:H2.get 5=some (hp.next 5,.blk [AV.str x.v.bs,AV.int IntKind.i64 x.lo.c,AV.sl x.lo.ts.nl (List.map aR.av x.lo.ts.es) x.lo.ts.cl,AV.sl x.hi.nl (List.map Lin.av x.hi.es) x.hi.cl,AV.int IntKind.i64 x.step] 5 true true false):=by rw[<-hH2,aB,if_pos rfl]
 have hot:∀k,k≠5->H2.get k=hp.get k:=λk hk=>by rw[<-hH2,aB,if_neg (Ne.symm hk),aB,if_neg (Ne.symm hk)]
 have ho2:=ho.mono (hot kk (by omega));clear hH2 hot ho;obtain⟨nl8,cl8,keys,hsn,_⟩:=ho2.snap (El.strs _) 62;refine cX (a98 nl8 cl8 all hl1 x.v.bs) (nX hsn rfl) (v:=.bool (cJ all x.v.bs)) (pa:=[]) rfl ?_;have a3:=h571 x.hi.nl x.hi.cl x.hi.es x.hi.ok nl8 cl8 all hl1;have a4:=h571 false true [x.lo] (by simp[big]) nl8 cl8 all hl1;simp only[List.map_cons,List.map_nil,Lin.avc]at a4;cases b2:cJ all x.v.bs
 case true=>refine Wk ?_;exact hbad (by simp[eG,b2])
 cases b3:decide ((x.hi.es.length:Int)<1)
 case true=>simp only[q5,b3,go_sem,seval];exact hbad (by simp[eG,b3])
 cases b4:decide (4<(x.hi.es.length:Int))
 case true=>simp only[q5,b3,b4,go_sem,seval];exact hbad (by simp[eG,b4])
 cases b5:decide (x.step<1)
 case true=>simp only[q5,b3,b4,b5,go_sem,seval];exact hbad (by simp[eG,b5])
 cases b6:decide (4096<x.step)
 case true=>simp only[q5,b3,b4,b5,b6,go_sem,seval];exact hbad (by simp[eG,b6])
 simp only[q5,b3,b4,b5,b6,go_sem,seval];refine cX a3 (nY (by simp only[go_sem,seval]) hsn) (v:=.bool (aY x.hi.es all)) (pa:=[]) rfl ?_;cases b7:aY x.hi.es all
 case false=>refine Wk ?_;exact hbad (by simp[eG,b7])
 simp only[q5,go_sem,seval];refine cX a4 (nY (by simp only[go_sem,seval]) hsn) (v:=.bool (aY [x.lo] all)) (pa:=[]) rfl ?_;cases b8:aY [x.lo] all
 case false=>refine Wk ?_;exact hbad (by simp[eG,b8])
 simp only[q5,go_sem,seval];refine yL (kb:=0) (s:=25) (k1:=kk) ho2 (El.strs _) (xs:=[.str x.v.bs]) (by intro y hy;simp at hy;subst hy;exact El.str _) (by simp) (by simp[big]at hl2 ⊢;omega) (by omega) ?_;intro v' rd' pa' ho3 _;simp only[cQ hb2,go_sem,seval];refine⟨v',25,rfl,.inr rfl,?_,?_⟩;subst hall;simpa[Str.av] using ho3;rw[hI2];have:eG x all=true:=by simp[eG,b1,b2,b3,b4,b5,b6,b7,b8]
 rw[this,Bool.true_and]
end
end
section
def kM(n:aZ)(vars:List Str):List Str:=vars++n.loops.es.map (·.v)
def kT(n:aZ):Int:=if n.dyn then 5 else 6
def eM(n:aZ)(vars:List Str)(values:Int):Bool:=
 d6 n.loops.es vars&&decide ((n.loops.es.length:Int)<=12) && !decide (n.value<0) && !decide (values<=n.value) && !decide (kT n<(n.at_.es.length:Int))&&aY n.at_.es (kM n vars)&&cU n.body (kM n vars) values &&
 (if n.dyn=true then cU n.index (kM n vars) values&&decide (0<=n.check) else dJ n.index lK&&decide (n.check=0))
structure nT(n:aZ)(vars:List Str):Prop where
 body:n.body.ok
 index:n.index.ok
 szb:vars.length+n.loops.es.length+n.body.sz<=big
 szi:vars.length+n.loops.es.length+n.index.sz<=big
section
variable{pg:Pg}
theorem c557(hf:pg.fs 557=some KL)
  (h570:∀(nl cl:Bool)(l:List Loop)(nl' cl':Bool)(vars:List Str),(nl'=true->vars=[])->vars.length+l.length<=big->bV pg 570 [.sl nl (l.map Loop.av) cl,.sl nl' (vars.map Str.av) cl'] (oP l vars))
  (h571:∀(nl cl:Bool)(ls:List Lin),ls.length<=big->∀(nl' cl':Bool)(vars:List Str),vars.length<=big->Ret pg 571 [.sl nl (ls.map Lin.av) cl,.sl nl' (vars.map Str.av) cl'] (.bool (aY ls vars)))
  (h109:∀p:aA,p.ok->∀(nl cl:Bool)(vars:List Str),vars.length+p.sz<=big->∀v:Int,Ret pg 109 [p.av,.sl nl (vars.map Str.av) cl,.int .i64 v] (.bool (cU p vars v)))
  (h105:∀p q:aA,p.ok->Ret pg 105 [p.av,q.av] (.bool (dJ p q)))
  (n:aZ) (nl cl:Bool) (vars:List Str) (hnl:nl=true->vars=[]) (hsz:nT n vars) (values:Int) :
  Ret pg 557 [n.av,.sl nl (vars.map Str.av) cl,.int .i64 values] (.bool (eM n vars values)):=by
 obtain⟨r,hr,hs⟩:=h570 n.loops.nl n.loops.cl n.loops.es nl cl vars hnl (by have:=hsz.szb;omega);refine Ret.ofX hf ?_;unfold KL;cases b1:d6 n.loops.es vars
 case false=>rw[oP,b1,if_neg (by simp)]at hs;subst hs;refine Wk ?_;refine aC (hr) ?_;cases b2:n.dyn<;>(simp only[b2,go_sem,seval];simp[eM,b1])
 rw[oP,b1,if_pos rfl]at hs;obtain⟨nl2,cl2,hnl2,rfl⟩:=hs;have hall:(kM n vars).length<=big:=by simp[kM];have:=hsz.szb;omega
 have a1:=h571 n.at_.nl n.at_.cl n.at_.es n.at_.ok nl2 cl2 (kM n vars) hall;have a2:=h109 n.body hsz.body nl2 cl2 (kM n vars) (by simp[kM];have:=hsz.szb;omega) values;have a3:=h109 n.index hsz.index nl2 cl2 (kM n vars) (by simp[kM];have:=hsz.szi;omega) values;have a4:=h105 n.index lK hsz.index;rw[aA.avc]at a2 a3 a4;have hd:eM n vars values=(decide ((n.loops.es.length:Int)<=12) && !decide (n.value<0) && !decide (values<=n.value) && !decide (kT n<(n.at_.es.length:Int))&&aY n.at_.es (kM n vars)&&cU n.body (kM n vars) values &&
  (if n.dyn=true then cU n.index (kM n vars) values&&decide (0<=n.check) else dJ n.index lK&&decide (n.check=0))):=by simp[eM,b1]
 rw[hd];clear hd;change Ret pg 570 _ (.tup [.sl nl2 ((kM n vars).map Str.av) cl2,_])at hr;generalize kM n vars=all at *;have z4:lK.av=_:=aA.avc lK;have w5:wr .i64 5=5:=rfl;refine Wk ?_;refine gO hr (by simp only[go_sem,seval]) (by first|rfl|simp[AV.tree,go_sem]) ?_;cases b2:decide ((n.loops.es.length:Int)<=12)
 case false=>cases b0:n.dyn<;>(simp only[b0,go_sem,seval];try simp)
 cases b3:decide (n.value<0)
 case true=>cases b0:n.dyn<;>(simp only[b0,b3,go_sem,seval];try simp)
 cases b4:decide (values<=n.value)
 case true=>cases b0:n.dyn<;>(simp only[b0,b3,b4,go_sem,seval];try simp)
 cases b5:decide (kT n<(n.at_.es.length:Int))
 case true=>
  cases b0:n.dyn
  ·have b6:decide (6<(n.at_.es.length:Int))=true:=by simpa[kT,b0] using b5
   simp only[b0,b3,b4,b6,w5,go_sem,seval]
   try simp
  ·have b6:decide (5<(n.at_.es.length:Int))=true:=by simpa[kT,b0] using b5
   simp only[b0,b3,b4,b6,w5,go_sem,seval]
   try simp
 cases b0:n.dyn
 ·have b6:decide (6<(n.at_.es.length:Int))=false:=by simpa[kT,b0] using b5
  simp only[b0,b3,b4,b6,w5,go_sem,seval];refine aC a1 ?_;cases b7:aY n.at_.es all
  ·simp only[go_sem,seval]
   try simp
  refine Wk ?_;refine aC a2 ?_;cases b8:cU n.body all values
  ·simp only[go_sem,seval]
   try simp
  simp only[b0,go_sem,seval];refine aC a4 ?_;cases b9:dJ n.index lK<;>(simp only[go_sem,seval];try simp)
 ·have b6:decide (5<(n.at_.es.length:Int))=false:=by simpa[kT,b0] using b5
  simp only[b0,b3,b4,b6,w5,go_sem,seval];refine aC a1 ?_;cases b7:aY n.at_.es all
  ·simp only[go_sem,seval]
   try simp
  refine Wk ?_;refine aC a2 ?_;cases b8:cU n.body all values
  ·simp only[go_sem,seval]
   try simp
  simp only[b0,go_sem,seval];refine aC a3 ?_;cases b9:cU n.index all values<;>(simp only[go_sem,seval];try simp)
end
end
section
end
section
def Lin.strip(l:Lin):Lin:=⟨l.c,⟨false,l.ts.es,false,l.ts.ok⟩⟩
def aE.strip(s:aE):aE:=⟨s.op,s.num,⟨false,s.args.es,false,s.args.ok⟩⟩
def Sl.mapS{α : Type}(f : α -> α)(s:Sl α):Sl α:=⟨false,s.es.map f,false,by simpa using s.ok⟩
mutual
def aA.strip:aA->aA
 |.mk op num value name at_ dyn check fn _ kids _ => .mk op num value name (at_.mapS Lin.strip) dyn check (fn.mapS aE.strip) false (aA.strips kids) false
def aA.strips:List aA->List aA
 |[]=>[]
 |p::r=>p.strip::aA.strips r
end
theorem aA.strips_eq:∀l:List aA,aA.strips l=l.map aA.strip
 |[]=>by simp[aA.strips]
 |p::r=>by simp[aA.strips,aA.strips_eq r]
theorem aA.strip_eq(p:aA):p.strip = .mk p.op p.num p.value p.name (p.at_.mapS Lin.strip) p.dyn p.check (p.fn.mapS aE.strip) false (p.kids.map aA.strip) false:=by cases p;rw[aA.strip,aA.strips_eq];rfl
def Loop.strip(x:Loop):Loop:=⟨x.v,x.lo.strip,x.hi.mapS Lin.strip,x.step⟩
def aZ.strip(n:aZ):aZ:=⟨n.loops.mapS Loop.strip,n.value,n.at_.mapS Lin.strip,n.dyn,n.index.strip,n.check,n.body.strip⟩
theorem FD(ls:List Lin)(vars:List Str):aY (ls.map Lin.strip) vars=aY ls vars:=by simp only[aY,List.all_map];rfl
theorem rR:∀(fn:List aE)(n:Int),dH n (fn.map aE.strip)=dH n fn
 |[],_=>rfl
 |s::r,n=>by rw[List.map_cons,dH,dH,rR r];rfl
theorem FX(fn:List aE)(n:Int):cR (fn.map aE.strip) n=cR fn n:=by rw[cR,cR,rR,cP]
theorem uX(p:aA)(a b c d e f:Bool):c7 p.strip a b c d e f=c7 p a b c d e f:=by rw[aA.strip_eq];simp only[c7,aA.num,aA.value,aA.name,aA.at_,aA.dyn,aA.check,aA.fn,Sl.mapS,cP];cases p;rfl
theorem FH(p:aA)(vars:List Str)(v:Int):dK p.strip vars v=dK p vars v:=by
 have h1:nK p.strip v=nK p v:=by simp only[nK,uX];rw[aA.strip_eq];simp only[aA.value,aA.at_,aA.dyn,aA.check,aA.kids,Sl.mapS,cP];cases p;rfl
 simp only[dK,uX,h1];rw[aA.strip_eq];simp only[aA.op,aA.num,aA.name,aA.at_,aA.kids,aA.fn,Sl.mapS,cP,FX];cases p;rfl
mutual
theorem EL(v:Int):∀(p:aA)(vars:List Str),cD v p.strip vars=cD v p vars
 |.mk op num value name at_ dyn check fn knl kids kcl,vars=>by have h:=FH (.mk op num value name at_ dyn check fn knl kids kcl) vars v;rw[aA.strip]at h ⊢;rw[cD,cD,h,rP v _ _ _ kids];simp only[Sl.mapS,FD]
theorem rP(v:Int)(red:Bool)(name:Str)(vars:List Str):∀(kids:List aA)(i:Nat),dS v red name vars i (aA.strips kids)=dS v red name vars i kids
 |[],i=>by rw[aA.strips]
 |k::r,i=>by rw[aA.strips,dS,dS,EL v k,rP v red name vars r]
end
mutual
theorem FG:∀p:aA,kR p.strip=kR p
 |.mk op num value name at_ dyn check fn knl kids kcl=>by rw[aA.strip,kR,kR,tT kids]
theorem tT:∀(l:List aA)(a:Int),jH a (aA.strips l)=jH a l
 |[],a=>by rw[aA.strips]
 |p::r,a=>by rw[aA.strips,jH,jH,FG p,tT r]
end
mutual
theorem aA.strip_strip:∀p:aA,p.strip.strip=p.strip
 |.mk op num value name at_ dyn check fn knl kids kcl=>by rw[aA.strip,aA.strip,aA.strips_strips kids];simp only[Sl.mapS,List.map_map];rfl
theorem aA.strips_strips:∀l:List aA,aA.strips (aA.strips l)=aA.strips l
 |[]=>by rw[aA.strips,aA.strips]
 |p::r=>by rw[aA.strips,aA.strips,aA.strip_strip p,aA.strips_strips r]
end
mutual
theorem aA.ok_strip:∀p:aA,p.strip.ok↔p.ok
 |.mk op num value name at_ dyn check fn knl kids kcl=>by rw[aA.strip,aA.ok,aA.ok,aA.oks_strip kids,aA.strips_eq,cP]
theorem aA.oks_strip:∀l:List aA,aA.oks (aA.strips l)↔aA.oks l
 |[]=>by rw[aA.strips]
 |p::r=>by rw[aA.strips,aA.oks,aA.oks,aA.ok_strip p,aA.oks_strip r]
end
mutual
theorem aA.sz_strip:∀p:aA,p.strip.sz=p.sz
 |.mk op num value name at_ dyn check fn knl kids kcl=>by rw[aA.strip,aA.sz,aA.sz,aA.szL_strip kids]
theorem aA.szL_strip:∀l:List aA,aA.szL (aA.strips l)=aA.szL l
 |[]=>by rw[aA.strips]
 |p::r=>by rw[aA.strips,aA.szL,aA.szL,aA.sz_strip p,aA.szL_strip r]
end
end
section
section
variable{pg:Pg}
theorem c572(hf:pg.fs 572=some w6)(nl cl:Bool)(vars:List Str)(hb:vars.length<=big)(s:List UInt8):Ret pg 572 [.sl nl (vars.map Str.av) cl,.str s] (.bool (cJ vars s)):=by
 refine Ret.ofX hf ?_;unfold w6;refine Wk ?_;refine aQ vars (λd r env hp=>env=yD (.sl nl (vars.map Str.av) cl) (.str s) (.int .i64 d.length)/\cJ vars s=cJ r s) ?_ ?_ ?_;exact⟨rfl,rfl⟩;rintro env hp ⟨rfl,hI⟩;simp only[yC,yD,bK,go_sem,seval];rw[hI];rfl;rintro d x r env hp hes ⟨rfl,hI⟩;obtain⟨hget,e1,e2,ew⟩:=eD hes hb;have hsym:decide (x.bs=s)=decide (s=x.bs):=by rw[eE];exact eq_comm
 cases hx:decide (s=x.bs);simp only[yC,yD,e1,e2,hget,hsym,hx,ew,go_sem,seval];refine⟨rfl,?_⟩;rw[hI];simp[cJ,hx];simp only[yC,yD,e1,e2,hget,hsym,hx,go_sem,seval];rw[hI];simp[cJ,hx]
theorem c595(hf:pg.fs 595=some DU)(l:Lin):bV pg 595 [l.av] (pH 1 false (l.ts.es.map λx => .str x.v.bs)):=by
 refine bV.ofX hf ?_;have hb:=l.ts.ok
 have hel:∀d:List aR,∀x∈d.map (λx:aR=>AV.str x.v.bs),El 1 false x:=by intro d x hx;simp only[List.mem_map]at hx;obtain⟨y,_,rfl⟩:=hx;exact El.str _
 unfold DU;refine Wk ?_;refine aQ l.ts.es (λd r env hp=>∃v,env=GI (.pt 1 0 0) v (.int .i64 d.length)/\hp.get 1=some (0,.blk [.int .i64 l.c,.sl l.ts.nl (l.ts.es.map aR.av) l.ts.cl] 2 true true false)/\Own hp 5 1 false v (d.map λx => .str x.v.bs)) ?_ ?_ ?_;exact⟨_,rfl,rfl,Own.nil _ _ _ _ _ _ rfl⟩;rintro env hp ⟨v,rfl,h1,ho⟩;simp only[GH,GI,h1,bK,go_sem,seval];exact ho.conv (hel _);rintro d x r env hp hes ⟨v,rfl,h1,ho⟩;obtain⟨hget,e1,e2,ew⟩:=eD hes hb;simp only[GH,GI,h1,e1,e2,hget,go_sem,seval];refine kW (kb:=0) (s:=5) (bytes:=16) (es:=d.map λx => .str x.v.bs) ho (hel _) (xs:=[.str x.v.bs]) (by intro y hy;simp at hy;subst hy;exact El.str _) ?_ (by decide) ?_;have:l.ts.es.length=d.length+(r.length+1):=by rw[hes];simp
 simp[big]at hb ⊢;omega;intro v' rd pa ho' hk hpa;simp only[ew,go_sem,seval];exact⟨v',rfl,by rw[hk 1 (by omega)];exact h1,by simpa using ho'⟩
theorem c573(hf:pg.fs 573=some KC)(h54:∀l:Lin,Ret pg 54 [l.av] (.bool (eT l)))(h595:pg.fs 595=some DU)(h572:pg.fs 572=some w6)(l:Lin)(nl cl:Bool)(vars:List Str)(hb:vars.length<=big) :
  Ret pg 573 [l.av,.sl nl (vars.map Str.av) cl] (.bool (i8 vars l)):=by
 have a1:=h54 l;have a2:=c595 h595 l;rw[Lin.avc]at a1 a2;refine Ret.ofX hf ?_;unfold KC;refine Wk ?_;refine aC (a1) ?_;cases b1:eT l;refine Wk ?_;simp[i8,b1];refine Wk ?_;refine EH a2 (by simp only[go_sem,seval]) ?_;intro nl2 cl2 _;refine Wk ?_;have hlb:=l.ts.ok;refine aQ l.ts.es (λd r env hp=>env=GO (.sl nl (vars.map Str.av) cl) (.sl nl2 (l.ts.es.map λx => .str x.v.bs) cl2) (.int .i64 d.length)/\l.ts.es.all (λx=>cJ vars x.v.bs)=r.all (λx=>cJ vars x.v.bs)) ?_ ?_ ?_;exact⟨rfl,rfl⟩;rintro env hp ⟨rfl,hI⟩;simp only[GN,GO,bK,go_sem,seval];simp[i8,b1,hI];rintro d x r env hp hes ⟨rfl,hI⟩;obtain⟨hget,e1,e2,ew⟩:=eD hes hlb;simp only[GN,GO,e1,e2,hget,go_sem,seval];refine aC (c572 h572 nl cl vars hb x.v.bs) ?_;cases hv:cJ vars x.v.bs;refine Wk ?_;simp[i8,b1,hI,hv];simp only[ew,go_sem,seval];exact⟨rfl,by rw[hI];simp[hv]⟩
theorem c574(hf:pg.fs 574=some KB)(h118:∀p q:aA,p.ok->Ret pg 118 [p.av,q.av] (.bool (dJ p q)))(p:aA)(hp:p.ok):Ret pg 574 [p.av] (.bool (dJ p lK)):=by have a4:=h118 p lK hp;rw[aA.avc]at a4;have z4:lK.av=_:=aA.avc lK;refine Ret.ofX hf ?_;unfold KB;refine Wk ?_;refine aC a4 ?_;simp only[go_sem,seval]
theorem j0(x:Lin)(r:List Lin)(vars:List Str):aY (x::r) vars=(i8 vars x&&aY r vars):=by simp[aY,i8]
end
end
end Go.Tev
