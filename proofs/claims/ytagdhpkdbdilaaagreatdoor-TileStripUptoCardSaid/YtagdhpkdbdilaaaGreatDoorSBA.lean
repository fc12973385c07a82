import Derived.Test.YtagdhpkdbdilaaaGreatDoorSAZ
set_option linter.all false
section
namespace Go.Tev
section
variable{pg:Pg}
set_option maxHeartbeats 4000000 in
theorem c558(hf:pg.fs 558=some DY)(h77:∀s:Str,Ret pg 77 [.str s.bs] (.bool (c8 s.bs)))(h572:pg.fs 572=some vK)
  (h573:∀(l:Lin)(nl cl:Bool)(vars:List Str),vars.length<=big->Ret pg 573 [l.av,.sl nl (vars.map Str.av) cl] (.bool (jZ vars l)))
  (h123:∀p:aE,p.ok->∀(nl cl:Bool)(vars:List Str),vars.length+p.sz<=big->∀v:Int,Ret pg 123 [p.av,.sl nl (vars.map Str.av) cl,.int .i64 v] (.bool (iK p vars v)))
  (h574:∀p:aE,p.ok->Ret pg 574 [p.av] (.bool (bT p kD)))
  (n:aK) (nl cl:Bool) (vars:List Str) (hsz:OW n vars) (values:Int) :
  Ret pg 558 [n.av,.sl nl (vars.map Str.av) cl,.int .i64 values] (.bool (jX n vars values)):=by
 have hb0:vars.length+n.loops.es.length<=big:=by have:=hsz.szb;omega
 have lb:=n.loops.ok;have ab:=n.at_.ok;have hn1:decide ((n.loops.es.length:Int)<=12) = !decide (12<(n.loops.es.length:Int)):=by by_cases h:(n.loops.es.length:Int)<=12<;>simp[h]<;>omega
 refine Ret.ofX hf ?_;unfold DY;cases b2:decide (12<(n.loops.es.length:Int))
 case true=>simp only[b2,go_sem,seval];simp[jX,hn1,b2]
 simp only[b2,go_sem,seval];refine nA (kb:=0) (s:=5) (bytes:=16) (Own.nil _ _ _ _ false true rfl) (by simp) (El.strs vars) (by simp[big]at hb0 ⊢;omega) (by decide) ?_;intro v0 rd pa ho0 hk0 _;refine Wk ?_;have g1:=hk0 1 (by omega);simp only[go_sem,seval]at g1;clear hk0;generalize hH:Eff.app _ (Eff.pat rd pa)=H at ho0 g1 ⊢;clear hH
 refine aY n.loops.es (λd r env hp=>∃v kk,env=kO (.int .i64 values) (.pt 1 0 0) v (.int .i64 d.length)/\(kk=5\/kk=29)/\Own hp kk 1 false v ((vars++d.map (·.v)).map Str.av) /\
  hp.get 1=H.get 1/\dS n.loops.es vars=dS r (vars++d.map (·.v))) ?_ ?_ ?_
 exact⟨v0,5,rfl,.inl rfl,by simpa using ho0,rfl,by simp⟩
 ·rintro env hp ⟨v,kk,rfl,hkk,ho,q1,hI⟩;rw[g1]at q1;have hspec:jX n vars values=(!decide (n.value<0) && !decide (values<=n.value) && !decide (oK n<(n.at_.es.length:Int))&&bW n.at_.es (qC n vars)&&iK n.body (qC n vars) values &&
   (if n.dyn=true then iK n.index (qC n vars) values&&decide (0<=n.check) else bT n.index kD&&decide (n.check=0))):=by
   rw[jX,hI,hn1,b2];simp[dS]
  rw[hspec];have hall:(qC n vars).length<=big:=by simp[qC];omega
  obtain⟨nl8,cl8,keys,hsn,_⟩:=ho.snap (El.strs _) 62;have a2:=h123 n.body hsz.body nl8 cl8 (qC n vars) (by simp[qC];have:=hsz.szb;omega) values;have a3:=h123 n.index hsz.index nl8 cl8 (qC n vars) (by simp[qC];have:=hsz.szi;omega) values;have a4:=h574 n.index hsz.index;rw[aE.avc]at a2 a3 a4;change snap (62+2) hp v=some (.sl nl8 ((qC n vars).map Str.av) cl8,keys)at hsn;clear hspec hI g1 ho0 ho;generalize qC n vars=all at *;cases b3:decide (n.value<0)
  case true=>cases b0:n.dyn<;>(simp only[kM,kO,q1,bA,b0,b3,go_sem,seval];try simp)
  cases b4:decide (values<=n.value)
  case true=>cases b0:n.dyn<;>(simp only[kM,kO,q1,bA,b0,b3,b4,go_sem,seval];try simp)
  cases b5:decide (oK n<(n.at_.es.length:Int))
  case true=>
   cases b0:n.dyn
   ·have b6:decide (6<(n.at_.es.length:Int))=true:=by simpa[oK,b0] using b5
    simp only[kM,kO,q1,bA,b0,b3,b4,b6,go_sem,seval]
    try simp
   ·have b6:decide (5<(n.at_.es.length:Int))=true:=by simpa[oK,b0] using b5
    simp only[kM,kO,q1,bA,b0,b3,b4,b6,go_sem,seval]
    try simp
  cases b0:n.dyn
  ·have b6:decide (6<(n.at_.es.length:Int))=false:=by simpa[oK,b0] using b5
   simp only[kM,kO,q1,bA,b0,b3,b4,b6,go_sem,seval];refine aY n.at_.es (λd r env h2=>env=kN (.int .i64 values) (.pt 1 0 0) v (.int .i64 d.length)/\h2=hp/\bW n.at_.es all=bW r all) ?_ ?_ ?_;exact⟨rfl,rfl,rfl⟩
   ·rintro env h2 ⟨rfl,rfl,hI⟩;have hI':bW n.at_.es all=true:=by rw[hI];rfl
    rw[hI'];cases b7:decide (n.check=0)
    case false=>
     simp only[lW,kN,q1,bA,b0,b7,go_sem,seval]
     try simp
    simp only[lW,kN,q1,bA,b0,b7,go_sem,seval];refine aG a4 ?_;cases b8:bT n.index kD
    ·simp only[go_sem,seval]
     try simp
    simp only[q1,go_sem,seval];refine cL a2 (lT (by simp only[go_sem,seval]) hsn rfl) (v:=.bool (iK n.body all values)) (pa:=[]) rfl ?_;simp only[go_sem,seval]
    try simp
   rintro d y r env h2 he2 ⟨rfl,rfl,hI⟩;obtain⟨hget2,f1,f2,fw⟩:=cM he2 ab;have a5:=h573 y nl8 cl8 all hall;rw[Lin.avc]at a5;rw[gW]at hI;simp only[lW,kN,q1,f1,f2,hget2,go_sem,seval];refine cL a5 (mV (by simp only[go_sem,seval]) hsn) (v:=.bool (jZ all y)) (pa:=[]) rfl ?_;cases b7:jZ all y;refine Wk ?_;simp[hI,b7];simp only[fw,go_sem,seval];rw[hI,b7,Bool.true_and];exact⟨rfl,rfl⟩
  ·have b6:decide (5<(n.at_.es.length:Int))=false:=by simpa[oK,b0] using b5
   simp only[kM,kO,q1,bA,b0,b3,b4,b6,go_sem,seval];refine aY n.at_.es (λd r env h2=>env=kN (.int .i64 values) (.pt 1 0 0) v (.int .i64 d.length)/\h2=hp/\bW n.at_.es all=bW r all) ?_ ?_ ?_;exact⟨rfl,rfl,rfl⟩
   ·rintro env h2 ⟨rfl,rfl,hI⟩;have hI':bW n.at_.es all=true:=by rw[hI];rfl
    rw[hI'];cases b7:decide (0<=n.check)
    case false=>
     simp only[lW,kN,q1,bA,b0,b7,go_sem,seval]
     try simp
    simp only[lW,kN,q1,bA,b0,b7,go_sem,seval];refine cL a3 (lT (by simp only[go_sem,seval]) hsn rfl) (v:=.bool (iK n.index all values)) (pa:=[]) rfl ?_;cases b8:iK n.index all values
    ·simp only[go_sem,seval]
     try simp
    simp only[q1,go_sem,seval];refine cL a2 (lT (by simp only[go_sem,seval]) hsn rfl) (v:=.bool (iK n.body all values)) (pa:=[]) rfl ?_;simp only[go_sem,seval]
    try simp
   rintro d y r env h2 he2 ⟨rfl,rfl,hI⟩;obtain⟨hget2,f1,f2,fw⟩:=cM he2 ab;have a5:=h573 y nl8 cl8 all hall;rw[Lin.avc]at a5;rw[gW]at hI;simp only[lW,kN,q1,f1,f2,hget2,go_sem,seval];refine cL a5 (mV (by simp only[go_sem,seval]) hsn) (v:=.bool (jZ all y)) (pa:=[]) rfl ?_;cases b7:jZ all y;refine Wk ?_;simp[hI,b7];simp only[fw,go_sem,seval];rw[hI,b7,Bool.true_and];exact⟨rfl,rfl⟩
 rintro d x r env hp hes ⟨v,kk,rfl,hkk,ho,q1,hI⟩;obtain⟨hget,e1,e2,ew⟩:=cM hes lb;rw[g1]at q1;have hI2:dS n.loops.es vars=(fJ x (vars++d.map (·.v))&&dS r (vars++(d++[x]).map (·.v))):=by rw[hI,dS];simp
 have hbad:fJ x (vars++d.map (·.v))=false->jX n vars values=false:=by intro h;rw[jX,hI2,h];simp
 clear hI;have hll:n.loops.es.length=d.length+(r.length+1):=by rw[hes];simp
 have hl1:(vars++d.map (·.v)).length<=big:=by simp;omega
 have hl2:(vars++d.map (·.v)).length+1<=big:=by simp;omega
 clear hll hes;generalize hall:vars++d.map (·.v)=all at *;have a57:=h77 x.v;simp only[kM,kO,q1,e1,e2,hget,go_sem,seval];refine aG (a57) ?_;cases b1:c8 x.v.bs
 case false=>refine Wk ?_;rw[hbad (by simp[fJ,b1])]
 refine Wk ?_;generalize hH2:Hp.put (Hp.put hp 9 (hp.next 9) _) 9 (hp.next 9) _=H2;have q9:H2.get 9=some (hp.next 9,.blk [AV.str x.v.bs,AV.int IntKind.i64 x.lo.c,AV.sl x.lo.ts.nl (List.map aN.av x.lo.ts.es) x.lo.ts.cl,AV.sl x.hi.nl (List.map Lin.av x.hi.es) x.hi.cl,AV.int IntKind.i64 x.step] 5 true true false):=by rw[<-hH2,aI,if_pos rfl]
 have hot:∀k,k≠9->H2.get k=hp.get k:=λk hk=>by rw[<-hH2,aI,if_neg (Ne.symm hk),aI,if_neg (Ne.symm hk)]
 have ho2:=ho.mono (hot kk (by omega));have q1':=(hot 1 (by omega)).trans q1;clear hH2 hot ho q1;obtain⟨nl8,cl8,keys,hsn,_⟩:=ho2.snap (El.strs _) 62;refine cL (c572 h572 nl8 cl8 all hl1 x.v.bs) (IW hsn rfl) (v:=.bool (cN all x.v.bs)) (pa:=[]) rfl ?_;have a4:=h573 x.lo nl8 cl8 all hl1;rw[Lin.avc]at a4;cases b2:cN all x.v.bs
 case true=>refine Wk ?_;rw[hbad (by simp[fJ,b2])]
 simp only[q9,go_sem,seval];refine cL a4 (mV (by simp only[go_sem,seval]) hsn) (v:=.bool (jZ all x.lo)) (pa:=[]) rfl ?_;cases b8:jZ all x.lo
 case false=>refine Wk ?_;rw[hbad (by simp[fJ,gW,b8])]
 cases b3:decide ((x.hi.es.length:Int)<1)
 case true=>simp only[q9,b3,go_sem,seval];rw[hbad (by simp[fJ,b3])]
 cases b4:decide (4<(x.hi.es.length:Int))
 case true=>simp only[q9,b3,b4,go_sem,seval];rw[hbad (by simp[fJ,b4])]
 cases b5:decide (x.step<1)
 case true=>simp only[q9,b3,b4,b5,go_sem,seval];rw[hbad (by simp[fJ,b5])]
 cases b6:decide (4096<x.step)
 case true=>simp only[q9,b3,b4,b5,b6,go_sem,seval];rw[hbad (by simp[fJ,b6])]
 simp only[q9,b3,b4,b5,b6,go_sem,seval];have hib:=x.hi.ok;refine aY x.hi.es (λd2 r2 env h2=>env=BA (.int .i64 values) (.pt 1 0 0) v (.int .i64 d.length) (.pt 9 (hp.next 9) 0) (.int .i64 d2.length)/\h2=H2/\bW x.hi.es all=bW r2 all) ?_ ?_ ?_;exact⟨rfl,rfl,rfl⟩;rintro env h2 ⟨rfl,rfl,hI⟩;simp only[A9,BA,q9,bA,go_sem,seval];refine BO (kb:=0) (s:=29) (k1:=kk) ho2 (El.strs _) (xs:=[.str x.v.bs]) (by intro y hy;simp at hy;subst hy;exact El.str _) (by simp) (by simp[big]at hl2 ⊢;omega) (by omega) ?_;intro v' rd' pa' ho3 hk3;simp only[ew,go_sem,seval];refine⟨v',29,rfl,.inr rfl,?_,?_,?_⟩;subst hall;simpa[Str.av] using ho3;rw[hk3 1 (by omega) (by omega),q1',g1];rw[hI2];have:fJ x all=true:=by simp[fJ,gW,b1,b2,b3,b4,b5,b6,b8,hI];simp[bW]
 rw[this,Bool.true_and];rintro d2 y r2 env h2 he2 ⟨rfl,rfl,hI⟩;obtain⟨hget2,f1,f2,fw⟩:=cM he2 hib;have a5:=h573 y nl8 cl8 all hl1;rw[Lin.avc]at a5;rw[gW]at hI;simp only[A9,BA,q9,f1,f2,hget2,go_sem,seval];refine cL a5 (mV (by simp only[go_sem,seval]) hsn) (v:=.bool (jZ all y)) (pa:=[]) rfl ?_;cases b7:jZ all y;refine Wk ?_;rw[hbad (by simp[fJ,hI,b7])];simp only[fw,go_sem,seval];rw[hI,b7,Bool.true_and];exact⟨rfl,rfl⟩
end
end Go.Tev
end
