import Derived.Test.YtilkdbbkkcnocaaGreatDoorSBE
set_option linter.all false
section
namespace Go.Tev
section
variable{pg:Pg}
set_option maxHeartbeats 4000000 in
theorem c558(hf:pg.fs 558=some KJ)(h77:∀s:Str,Ret pg 77 [.str s.bs] (.bool (fT s.bs)))(h572:pg.fs 572=some w6)
  (h573:∀(l:Lin)(nl cl:Bool)(vars:List Str),vars.length<=big->Ret pg 573 [l.av,.sl nl (vars.map Str.av) cl] (.bool (i8 vars l)))
  (h123:∀p:aA,p.ok->∀(nl cl:Bool)(vars:List Str),vars.length+p.sz<=big->∀v:Int,Ret pg 123 [p.av,.sl nl (vars.map Str.av) cl,.int .i64 v] (.bool (cU p vars v)))
  (h574:∀p:aA,p.ok->Ret pg 574 [p.av] (.bool (dJ p lK)))
  (n:aZ) (nl cl:Bool) (vars:List Str) (hsz:nT n vars) (values:Int) :
  Ret pg 558 [n.av,.sl nl (vars.map Str.av) cl,.int .i64 values] (.bool (eM n vars values)):=by
 have hb0:vars.length+n.loops.es.length<=big:=by have:=hsz.szb;omega
 have lb:=n.loops.ok;have ab:=n.at_.ok;have hn1:decide ((n.loops.es.length:Int)<=12) = !decide (12<(n.loops.es.length:Int)):=by by_cases h:(n.loops.es.length:Int)<=12<;>simp[h]<;>omega
 refine Ret.ofX hf ?_;unfold KJ;cases b2:decide (12<(n.loops.es.length:Int))
 case true=>simp only[b2,go_sem,seval];simp[eM,hn1,b2]
 simp only[b2,go_sem,seval];refine kW (kb:=0) (s:=5) (bytes:=16) (Own.nil _ _ _ _ false true rfl) (by simp) (El.strs vars) (by simp[big]at hb0 ⊢;omega) (by decide) ?_;intro v0 rd pa ho0 hk0 _;refine Wk ?_;have g1:=hk0 1 (by omega);simp only[go_sem,seval]at g1;clear hk0;generalize hH:Eff.app _ (Eff.pat rd pa)=H at ho0 g1 ⊢;clear hH
 refine aQ n.loops.es (λd r env hp=>∃v kk,env=nA (.int .i64 values) (.pt 1 0 0) v (.int .i64 d.length)/\(kk=5\/kk=29)/\Own hp kk 1 false v ((vars++d.map (·.v)).map Str.av) /\
  hp.get 1=H.get 1/\d6 n.loops.es vars=d6 r (vars++d.map (·.v))) ?_ ?_ ?_
 exact⟨v0,5,rfl,.inl rfl,by simpa using ho0,rfl,by simp⟩
 ·rintro env hp ⟨v,kk,rfl,hkk,ho,q1,hI⟩;rw[g1]at q1;have hspec:eM n vars values=(!decide (n.value<0) && !decide (values<=n.value) && !decide (kT n<(n.at_.es.length:Int))&&aY n.at_.es (kM n vars)&&cU n.body (kM n vars) values &&
   (if n.dyn=true then cU n.index (kM n vars) values&&decide (0<=n.check) else dJ n.index lK&&decide (n.check=0))):=by
   rw[eM,hI,hn1,b2];simp[d6]
  rw[hspec];have hall:(kM n vars).length<=big:=by simp[kM];omega
  obtain⟨nl8,cl8,keys,hsn,_⟩:=ho.snap (El.strs _) 62;have a2:=h123 n.body hsz.body nl8 cl8 (kM n vars) (by simp[kM];have:=hsz.szb;omega) values;have a3:=h123 n.index hsz.index nl8 cl8 (kM n vars) (by simp[kM];have:=hsz.szi;omega) values;have a4:=h574 n.index hsz.index;rw[aA.avc]at a2 a3 a4;change snap (62+2) hp v=some (.sl nl8 ((kM n vars).map Str.av) cl8,keys)at hsn;clear hspec hI g1 ho0 ho;generalize kM n vars=all at *;cases b3:decide (n.value<0)
  case true=>cases b0:n.dyn<;>(simp only[m8,nA,q1,bK,b0,b3,go_sem,seval];try simp)
  cases b4:decide (values<=n.value)
  case true=>cases b0:n.dyn<;>(simp only[m8,nA,q1,bK,b0,b3,b4,go_sem,seval];try simp)
  cases b5:decide (kT n<(n.at_.es.length:Int))
  case true=>
   cases b0:n.dyn
   ·have b6:decide (6<(n.at_.es.length:Int))=true:=by simpa[kT,b0] using b5
    simp only[m8,nA,q1,bK,b0,b3,b4,b6,go_sem,seval]
    try simp
   ·have b6:decide (5<(n.at_.es.length:Int))=true:=by simpa[kT,b0] using b5
    simp only[m8,nA,q1,bK,b0,b3,b4,b6,go_sem,seval]
    try simp
  cases b0:n.dyn
  ·have b6:decide (6<(n.at_.es.length:Int))=false:=by simpa[kT,b0] using b5
   simp only[m8,nA,q1,bK,b0,b3,b4,b6,go_sem,seval];refine aQ n.at_.es (λd r env h2=>env=m9 (.int .i64 values) (.pt 1 0 0) v (.int .i64 d.length)/\h2=hp/\aY n.at_.es all=aY r all) ?_ ?_ ?_;exact⟨rfl,rfl,rfl⟩
   ·rintro env h2 ⟨rfl,rfl,hI⟩;have hI':aY n.at_.es all=true:=by rw[hI];rfl
    rw[hI'];cases b7:decide (n.check=0)
    case false=>
     simp only[oU,m9,q1,bK,b0,b7,go_sem,seval]
     try simp
    simp only[oU,m9,q1,bK,b0,b7,go_sem,seval];refine aC a4 ?_;cases b8:dJ n.index lK
    ·simp only[go_sem,seval]
     try simp
    simp only[q1,go_sem,seval];refine cX a2 (mE (by simp only[go_sem,seval]) hsn rfl) (v:=.bool (cU n.body all values)) (pa:=[]) rfl ?_;simp only[go_sem,seval]
    try simp
   rintro d y r env h2 he2 ⟨rfl,rfl,hI⟩;obtain⟨hget2,f1,f2,fw⟩:=eD he2 ab;have a5:=h573 y nl8 cl8 all hall;rw[Lin.avc]at a5;rw[j0]at hI;simp only[oU,m9,q1,f1,f2,hget2,go_sem,seval];refine cX a5 (nY (by simp only[go_sem,seval]) hsn) (v:=.bool (i8 all y)) (pa:=[]) rfl ?_;cases b7:i8 all y;refine Wk ?_;simp[hI,b7];simp only[fw,go_sem,seval];rw[hI,b7,Bool.true_and];exact⟨rfl,rfl⟩
  ·have b6:decide (5<(n.at_.es.length:Int))=false:=by simpa[kT,b0] using b5
   simp only[m8,nA,q1,bK,b0,b3,b4,b6,go_sem,seval];refine aQ n.at_.es (λd r env h2=>env=m9 (.int .i64 values) (.pt 1 0 0) v (.int .i64 d.length)/\h2=hp/\aY n.at_.es all=aY r all) ?_ ?_ ?_;exact⟨rfl,rfl,rfl⟩
   ·rintro env h2 ⟨rfl,rfl,hI⟩;have hI':aY n.at_.es all=true:=by rw[hI];rfl
    rw[hI'];cases b7:decide (0<=n.check)
    case false=>
     simp only[oU,m9,q1,bK,b0,b7,go_sem,seval]
     try simp
    simp only[oU,m9,q1,bK,b0,b7,go_sem,seval];refine cX a3 (mE (by simp only[go_sem,seval]) hsn rfl) (v:=.bool (cU n.index all values)) (pa:=[]) rfl ?_;cases b8:cU n.index all values
    ·simp only[go_sem,seval]
     try simp
    simp only[q1,go_sem,seval];refine cX a2 (mE (by simp only[go_sem,seval]) hsn rfl) (v:=.bool (cU n.body all values)) (pa:=[]) rfl ?_;simp only[go_sem,seval]
    try simp
   rintro d y r env h2 he2 ⟨rfl,rfl,hI⟩;obtain⟨hget2,f1,f2,fw⟩:=eD he2 ab;have a5:=h573 y nl8 cl8 all hall;rw[Lin.avc]at a5;rw[j0]at hI;simp only[oU,m9,q1,f1,f2,hget2,go_sem,seval];refine cX a5 (nY (by simp only[go_sem,seval]) hsn) (v:=.bool (i8 all y)) (pa:=[]) rfl ?_;cases b7:i8 all y;refine Wk ?_;simp[hI,b7];simp only[fw,go_sem,seval];rw[hI,b7,Bool.true_and];exact⟨rfl,rfl⟩
 rintro d x r env hp hes ⟨v,kk,rfl,hkk,ho,q1,hI⟩;obtain⟨hget,e1,e2,ew⟩:=eD hes lb;rw[g1]at q1;have hI2:d6 n.loops.es vars=(eG x (vars++d.map (·.v))&&d6 r (vars++(d++[x]).map (·.v))):=by rw[hI,d6];simp
 have hbad:eG x (vars++d.map (·.v))=false->eM n vars values=false:=by intro h;rw[eM,hI2,h];simp
 clear hI;have hll:n.loops.es.length=d.length+(r.length+1):=by rw[hes];simp
 have hl1:(vars++d.map (·.v)).length<=big:=by simp;omega
 have hl2:(vars++d.map (·.v)).length+1<=big:=by simp;omega
 clear hll hes;generalize hall:vars++d.map (·.v)=all at *;have a57:=h77 x.v;simp only[m8,nA,q1,e1,e2,hget,go_sem,seval];refine aC (a57) ?_;cases b1:fT x.v.bs
 case false=>refine Wk ?_;rw[hbad (by simp[eG,b1])]
 refine Wk ?_;generalize hH2:Hp.put (Hp.put hp 9 (hp.next 9) _) 9 (hp.next 9) _=H2;have q9:H2.get 9=some (hp.next 9,.blk [AV.str x.v.bs,AV.int IntKind.i64 x.lo.c,AV.sl x.lo.ts.nl (List.map aR.av x.lo.ts.es) x.lo.ts.cl,AV.sl x.hi.nl (List.map Lin.av x.hi.es) x.hi.cl,AV.int IntKind.i64 x.step] 5 true true false):=by rw[<-hH2,aB,if_pos rfl]
 have hot:∀k,k≠9->H2.get k=hp.get k:=λk hk=>by rw[<-hH2,aB,if_neg (Ne.symm hk),aB,if_neg (Ne.symm hk)]
 have ho2:=ho.mono (hot kk (by omega));have q1':=(hot 1 (by omega)).trans q1;clear hH2 hot ho q1;obtain⟨nl8,cl8,keys,hsn,_⟩:=ho2.snap (El.strs _) 62;refine cX (c572 h572 nl8 cl8 all hl1 x.v.bs) (nX hsn rfl) (v:=.bool (cJ all x.v.bs)) (pa:=[]) rfl ?_;have a4:=h573 x.lo nl8 cl8 all hl1;rw[Lin.avc]at a4;cases b2:cJ all x.v.bs
 case true=>refine Wk ?_;rw[hbad (by simp[eG,b2])]
 simp only[q9,go_sem,seval];refine cX a4 (nY (by simp only[go_sem,seval]) hsn) (v:=.bool (i8 all x.lo)) (pa:=[]) rfl ?_;cases b8:i8 all x.lo
 case false=>refine Wk ?_;rw[hbad (by simp[eG,j0,b8])]
 cases b3:decide ((x.hi.es.length:Int)<1)
 case true=>simp only[q9,b3,go_sem,seval];rw[hbad (by simp[eG,b3])]
 cases b4:decide (4<(x.hi.es.length:Int))
 case true=>simp only[q9,b3,b4,go_sem,seval];rw[hbad (by simp[eG,b4])]
 cases b5:decide (x.step<1)
 case true=>simp only[q9,b3,b4,b5,go_sem,seval];rw[hbad (by simp[eG,b5])]
 cases b6:decide (4096<x.step)
 case true=>simp only[q9,b3,b4,b5,b6,go_sem,seval];rw[hbad (by simp[eG,b6])]
 simp only[q9,b3,b4,b5,b6,go_sem,seval];have hib:=x.hi.ok;refine aQ x.hi.es (λd2 r2 env h2=>env=GV (.int .i64 values) (.pt 1 0 0) v (.int .i64 d.length) (.pt 9 (hp.next 9) 0) (.int .i64 d2.length)/\h2=H2/\aY x.hi.es all=aY r2 all) ?_ ?_ ?_;exact⟨rfl,rfl,rfl⟩;rintro env h2 ⟨rfl,rfl,hI⟩;simp only[GU,GV,q9,bK,go_sem,seval];refine yL (kb:=0) (s:=29) (k1:=kk) ho2 (El.strs _) (xs:=[.str x.v.bs]) (by intro y hy;simp at hy;subst hy;exact El.str _) (by simp) (by simp[big]at hl2 ⊢;omega) (by omega) ?_;intro v' rd' pa' ho3 hk3;simp only[ew,go_sem,seval];refine⟨v',29,rfl,.inr rfl,?_,?_,?_⟩;subst hall;simpa[Str.av] using ho3;rw[hk3 1 (by omega) (by omega),q1',g1];rw[hI2];have:eG x all=true:=by simp[eG,j0,b1,b2,b3,b4,b5,b6,b8,hI];simp[aY]
 rw[this,Bool.true_and];rintro d2 y r2 env h2 he2 ⟨rfl,rfl,hI⟩;obtain⟨hget2,f1,f2,fw⟩:=eD he2 hib;have a5:=h573 y nl8 cl8 all hl1;rw[Lin.avc]at a5;rw[j0]at hI;simp only[GU,GV,q9,f1,f2,hget2,go_sem,seval];refine cX a5 (nY (by simp only[go_sem,seval]) hsn) (v:=.bool (i8 all y)) (pa:=[]) rfl ?_;cases b7:i8 all y;refine Wk ?_;rw[hbad (by simp[eG,hI,b7])];simp only[fw,go_sem,seval];rw[hI,b7,Bool.true_and];exact⟨rfl,rfl⟩
end
end Go.Tev
end
