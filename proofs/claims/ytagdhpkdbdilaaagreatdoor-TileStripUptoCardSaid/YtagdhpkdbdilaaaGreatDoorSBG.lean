import Derived.Test.YtagdhpkdbdilaaaGreatDoorSBF
import Derived.Test.YtagdhpkdbdilaaaGreatDoorSAX
import Derived.Test.YtagdhpkdbdilaaaGreatDoorSBB
import Derived.Test.YtagdhpkdbdilaaaGreatDoorSAI
import Derived.Test.YtagdhpkdbdilaaaGreatDoorSAM
import Derived.Test.YtagdhpkdbdilaaaGreatDoorSAY
set_option linter.all false
namespace Go.Tev
section
section
variable{pg:Pg}
set_option maxHeartbeats 4000000 in
theorem c746(hf:pg.fs 746=some DM)(h57:∀s:Str,Ret pg 57 [.str s.bs] (.bool (c8 s.bs)))(h761:pg.fs 761=some rX)(h783:pg.fs 783=some pO)(h762:pg.fs 762=some x7)(h306:pg.fs 306=some vL)(h298:pg.fs 298=some yB)
  (h763:pg.fs 763=some vI) (h784:pg.fs 784=some rV) (n:aK) (hw:∀x∈n.loops.es,wfL x/\x.hi.es≠[]/\x.hi.es.length<big) (k size:Int) (name:Str):bZ pg 746 [n.av,.int .i64 k,.int .i64 size,.str name.bs] (iJ n k size name):=by
 have hlb:=n.loops.ok;refine bZ.ofX hf ?_;unfold DM;rw[aK.avc];cases b1:decide (k<0)
 case true=>simp only[b1,go_sem,seval];exact dZ (by simp[bD,b1]) (by decide)
 cases b2:decide ((n.loops.es.length:Int)<=k)
 case true=>simp only[b1,b2,go_sem,seval];exact dZ (by simp[bD,b1,b2]) (by decide)
 cases b3:decide (size<1)
 case true=>simp only[b1,b2,b3,go_sem,seval];exact dZ (by simp[bD,b1,b2,b3]) (by decide)
 cases b4:decide (4096<size)
 case true=>simp only[b1,b2,b3,b4,go_sem,seval];exact dZ (by simp[bD,b1,b2,b3,b4]) (by decide)
 have k0:0<=k:=by have:=bQ b1;omega
 have k1:k<n.loops.es.length:=by have:=bQ b2;omega
 have hk0:(0<=k)=True:=eq_true k0;obtain⟨x,hx⟩:∃x,n.loops.es[k.toNat]?=some x:=⟨_,cK (by omega)⟩
 obtain⟨w1,w2,w3⟩:=hw x (List.mem_of_getElem? hx)
 have hE:bD n.loops.es k size name.bs n.loops.es.length=if (!decide (x.step=1) || !c8 name.bs||n.loops.es.any (λy=>decide (y.v.bs=name.bs)))=true then 1 else if (decide (4<=(x.hi.es.length:Int))||decide (12<=(n.loops.es.length:Int)))=true then 3 else 0:=by simp only[bD,b1,b2,b3,b4,hx];simp
 cases b5:decide (x.step=1)
 case false=>simp only[b1,b2,b3,b4,hk0,hx,b5,go_sem,seval];exact dZ (by rw[hE,b5];rfl) (by decide)
 simp only[b1,b2,b3,b4,hk0,hx,b5,go_sem,seval];refine aG (h57 name) ?_;cases b6:c8 name.bs
 case false=>refine Wk ?_;exact dZ (by rw[hE,b5,b6];rfl) (by decide)
 refine Wk ?_;have a2:=c761 h761 h783 n.loops.nl n.loops.cl n.loops.es n.loops.ok 762 [.fp (.str name.bs)] (by simp only[go_sem,seval]) (λy=>decide (y.v.bs=name.bs)) (λy _=>c762 h762 y name.bs);refine cL a2 (by simp only[depth,lE,fR,l7,go_sem,seval];rfl) (by rfl) ?_;cases b7:n.loops.es.any (λy=>decide (y.v.bs=name.bs))
 case true=>refine Wk ?_;exact dZ (by rw[hE,b5,b6,b7];rfl) (by decide)
 cases b8:decide (4<=(x.hi.es.length:Int))
 case true=>simp only[b8,go_sem,seval];exact dZ (by rw[hE,b5,b6,b7,b8];rfl) (by decide)
 cases b9:decide (12<=(n.loops.es.length:Int))
 case true=>simp only[b8,b9,go_sem,seval];exact dZ (by rw[hE,b5,b6,b7,b8,b9];rfl) (by decide)
 simp only[b8,b9,go_sem,seval];generalize hH:Hp.put _ 13 0 (Ob.blk [AV.str x.v.bs,AV.int .i64 x.lo.c,.sl x.lo.ts.nl (x.lo.ts.es.map aN.av) x.lo.ts.cl,.sl x.hi.nl (x.hi.es.map Lin.av) x.hi.cl,.int .i64 x.step] 5 true true false)=H0;have g1:H0.get 1=some (0,.blk n.cells 23 true true false):=by rw[<-hH];simp only[go_sem,seval];rfl
 have g5:H0.get 5=some (0,.blk [.str name.bs] 1 false true false):=by rw[<-hH];simp only[go_sem,seval]
 have g9:H0.get 9=some (0,.blk kE.cells 23 true true false):=by rw[<-hH];simp only[go_sem,seval];rfl
 have g13:H0.get 13=some (0,.blk [AV.str x.v.bs,AV.int .i64 x.lo.c,.sl x.lo.ts.nl (x.lo.ts.es.map aN.av) x.lo.ts.cl,.sl x.hi.nl (x.hi.es.map Lin.av) x.hi.cl,.int .i64 x.step] 5 true true false):=by rw[<-hH];simp only[go_sem,seval]
 have n25:H0.next 25=0:=by rw[<-hH];rfl
 have n29:H0.next 29=0:=by rw[<-hH];rfl
 have n33:H0.next 33=0:=by rw[<-hH];rfl
 have n41:H0.next 41=0:=by rw[<-hH];rfl
 have n45:H0.next 45=0:=by rw[<-hH];rfl
 have n49:H0.next 49=0:=by rw[<-hH];rfl
 have n53:H0.next 53=0:=by rw[<-hH];rfl
 clear hH;refine BN (c306 h306 x.hi.nl x.hi.cl _ (El.lins x.hi.es) (by rw[aZ];exact x.hi.ok) (λh=>by rw[w1 h];rfl)) (by simp only[go_sem,seval]) (El.lins x.hi.es) ?_ ?_;intro he;exact absurd (by simpa using he) w2;intro cs hcs hch;rw[aZ];simp only[g13,g5,n25,n29,go_sem,seval];refine cC ?_;simp only[g13,g5,n33,go_sem,seval];refine cS (c298 h298 name) (by simp only[go_sem,seval]) (by rw[Lin.avc];rfl) ?_;simp only[g13,g5,n33,go_sem,seval];refine BN (c306 h306 x.hi.nl x.hi.cl _ (El.lins x.hi.es) (by rw[aZ];exact x.hi.ok) (λh=>by rw[w1 h];rfl)) (by simp only[go_sem,seval]) (El.lins x.hi.es) ?_ ?_;intro he;exact absurd (by simpa using he) w2;intro cs2 hcs2 hch2;simp only[n41,n33,go_sem,seval];have hg41:∀H:Hp,(H.put 41 0 (Ob.blk cs2 2 true false false)).get 41=some (0,Ob.blk cs2 2 true false false):=λH=>by rw[aI,if_pos rfl]
 refine HK (kb:=0) (s:=45) (bytes:=32) (esz:=2) (ag:=true) (n:=x.hi.es.length) (by rw[aZ]) (hg41 _) hcs2 (by omega) (El.lins x.hi.es) (xs:=[(⟨size,sC ⟨name,1⟩⟩:Lin).av]) (by intro y hy;rw[List.mem_singleton.1 hy];exact El.lin _) (by simp) (by simp only[big,List.length_singleton]at w3 ⊢;omega) (by decide) ?_;intro ds hds;rw[List.length_singleton];simp only[n45,n49,go_sem,seval];refine cC ?_;generalize hH:Hp.put _ 49 0 (Ob.blk [AV.str x.v.bs,AV.int .i64 (fD name 0).c,.sl (fD name 0).ts.nl ((fD name 0).ts.es.map aN.av) (fD name 0).ts.cl,.rf 45 0 0 (x.hi.es.length+1) (x.hi.es.length+1),.int .i64 1] 5 true true false)=H1;have q1:H1.get 1=some (0,.blk n.cells 23 true true false):=by rw[<-hH];simp only[g1,g9,n25,n29,n33,n41,n45,n49,n53,go_sem,seval]
 have q9:H1.get 9=some (0,.blk kE.cells 23 true true false):=by rw[<-hH];simp only[g1,g9,n25,n29,n33,n41,n45,n49,n53,go_sem,seval]
 have q25:H1.get 25=some (0,.blk cs 2 true false false):=by rw[<-hH];simp only[g1,g9,n25,n29,n33,n41,n45,n49,n53,go_sem,seval]
 have q29:H1.get 29=some (0,.blk [AV.str name.bs,AV.int .i64 x.lo.c,.sl x.lo.ts.nl (x.lo.ts.es.map aN.av) x.lo.ts.cl,.rf 25 0 0 x.hi.es.length x.hi.es.length,.int .i64 size] 5 true true false):=by rw[<-hH];simp only[g1,g9,n25,n29,n33,n41,n45,n49,n53,go_sem,seval]
 have q45:H1.get 45=some (0,.blk ds 2 true false false):=by rw[<-hH];simp only[g1,g9,n25,n29,n33,n41,n45,n49,n53,go_sem,seval]
 have q49:H1.get 49=some (0,.blk [AV.str x.v.bs,AV.int .i64 (fD name 0).c,.sl (fD name 0).ts.nl ((fD name 0).ts.es.map aN.av) (fD name 0).ts.cl,.rf 45 0 0 (x.hi.es.length+1) (x.hi.es.length+1),.int .i64 1] 5 true true false):=by rw[<-hH];simp only[g1,g9,n25,n29,n33,n41,n45,n49,n53,go_sem,seval]
 have m53:H1.next 53=0:=by rw[<-hH];simp only[g1,g9,n25,n29,n33,n41,n45,n49,n53,go_sem,seval]
 clear hH;rw[aK.cellsE]at q1 g1;rw[fE]at q9;have s1:=λh=>UF h n.loops.nl n.loops.cl n.loops.es k k0 (by omega);have s2:=λh=>UE h n.loops.nl n.loops.cl n.loops.es (k+1) (by omega) (by omega);have wk:wr .i64 (k+1)=k+1:=eB (by omega) (by simp only[big]at hlb;omega);simp only[q1,g1,q29,q49,↓s1,↓s2,wk,go_sem,seval];have hob:x.hi.es.length+1<=big:=by omega
 have e1:Tev.snap 61 H1 (.rf 25 0 0 x.hi.es.length x.hi.es.length)=some (.sl false (x.hi.es.map Lin.av) false,[25]):=o9 (by rw[aZ]) q25 hcs (El.lins _) 59;have hel2:∀y∈x.hi.es.map Lin.av++[(⟨size,sC ⟨name,1⟩⟩:Lin).av],El 2 true y:=by intro y hy;rcases i8.1 hy with h|h;exact El.lins _ y h;rw[List.mem_singleton.1 h];exact El.lin _
 have e2:Tev.snap 61 H1 (.rf 45 0 0 (x.hi.es.length+1) (x.hi.es.length+1))=some (.sl false (x.hi.es.map Lin.av++[(⟨size,sC ⟨name,1⟩⟩:Lin).av]) false,[45]):=o9 (by simp) q45 hds hel2 59;have hts:∀l:Lin,(AV.sl l.ts.nl (l.ts.es.map aN.av) l.ts.cl).tree=true:=λl=>by simp only[go_sem,seval]
 have htl:∀(ls:List Loop)(nl cl:Bool),(AV.sl nl (ls.map Loop.av) cl).tree=true:=λls nl cl=>by simp only[go_sem,seval]
 have e3:Tev.snap 62 H1 (.agg [AV.str name.bs,AV.int .i64 x.lo.c,.sl x.lo.ts.nl (x.lo.ts.es.map aN.av) x.lo.ts.cl,.rf 25 0 0 x.hi.es.length x.hi.es.length,.int .i64 size])=some (.agg [AV.str name.bs,AV.int .i64 x.lo.c,.sl x.lo.ts.nl (x.lo.ts.es.map aN.av) x.lo.ts.cl,.sl false (x.hi.es.map Lin.av) false,.int .i64 size],[25]++[]):=
  sJ (d:=60) (d6 rfl (d6 rfl (d6 (hts _) (iT e1 (d6 (r:=[]) (l:=[]) (s':=[]) rfl rfl)))))
 have e4:Tev.snap 62 H1 (.agg [AV.str x.v.bs,AV.int .i64 (fD name 0).c,.sl (fD name 0).ts.nl ((fD name 0).ts.es.map aN.av) (fD name 0).ts.cl,.rf 45 0 0 (x.hi.es.length+1) (x.hi.es.length+1),.int .i64 1])=some (.agg [AV.str x.v.bs,AV.int .i64 (fD name 0).c,.sl (fD name 0).ts.nl ((fD name 0).ts.es.map aN.av) (fD name 0).ts.cl,.sl false (x.hi.es.map Lin.av++[(⟨size,sC ⟨name,1⟩⟩:Lin).av]) false,.int .i64 1],[45]++[]):=
  sJ (d:=60) (d6 rfl (d6 rfl (d6 (hts _) (iT e2 (d6 (r:=[]) (l:=[]) (s':=[]) rfl rfl)))))
 obtain⟨o,ho⟩:∃o:Loop,o=⟨name,x.lo,⟨false,x.hi.es,false,x.hi.ok⟩,size⟩:=⟨_,rfl⟩
 obtain⟨i,hi⟩:∃i:Loop,i=⟨x.v,fD name 0,⟨false,x.hi.es++[(⟨size,sC ⟨name,1⟩⟩:Lin)],false,by simpa using hob⟩,1⟩:=⟨_,rfl⟩
 have hoa:o.av = .agg [AV.str name.bs,AV.int .i64 x.lo.c,.sl x.lo.ts.nl (x.lo.ts.es.map aN.av) x.lo.ts.cl,.sl false (x.hi.es.map Lin.av) false,.int .i64 size]:=by rw[ho,Loop.avc]
 have hia:i.av = .agg [AV.str x.v.bs,AV.int .i64 (fD name 0).c,.sl (fD name 0).ts.nl ((fD name 0).ts.es.map aN.av) (fD name 0).ts.cl,.sl false (x.hi.es.map Lin.av++[(⟨size,sC ⟨name,1⟩⟩:Lin).av]) false,.int .i64 1]:=by rw[hi,Loop.avc,List.map_append];rfl
 have two:qG x size name o i:=by subst ho hi;exact⟨rfl,rfl,rfl,rfl,rfl,rfl,rfl,⟨_,rfl,by simp[fD,Lin.strip]⟩,rfl,rfl⟩
 rw[<-hoa]at e3;rw[<-hia]at e4;have e5:=yT (nl:=false) (cl:=true) (d:=61) (iT e3 (iT e4 (s':=[]) (r:=[]) (l:=[]) rfl))
 have hcat:i6 [⟨n.loops.nl,n.loops.es.take k.toNat,(n.loops.nl||n.loops.cl)&&k==(n.loops.es.length:Int),by simp;omega⟩,⟨false,[o,i],true,by simp[big]⟩,⟨n.loops.nl,n.loops.es.drop (k+1).toNat,n.loops.nl||n.loops.cl,by simp;omega⟩]=kV o i k.toNat n.loops.es:=by
  have:(k+1).toNat=k.toNat+1:=by omega
  simp[i6,kV,this]
 have hil:(kV o i k.toNat n.loops.es).length=n.loops.es.length+1:=uU (by omega);have h12:n.loops.es.length<12:=by have:=bQ b9;omega
 have a3:=c763 h763 h784 false true [⟨n.loops.nl,n.loops.es.take k.toNat,(n.loops.nl||n.loops.cl)&&k==(n.loops.es.length:Int),by simp;omega⟩,⟨false,[o,i],true,by simp[big]⟩,⟨n.loops.nl,n.loops.es.drop (k+1).toNat,n.loops.nl||n.loops.cl,by simp;omega⟩] (by simp[big]) (by rw[hcat,hil];simp only[big];omega) (by rw[hcat];intro q;rw[q]at hil;simp at hil);rw[hcat]at a3;refine HJ (kb:=0) (s:=53) a3 (keys:=_) (iT (yT (d:=62) (d6 (htl _ _ _) (iT e5 (d6 (r:=[]) (l:=[]) (s':=[]) (htl _ _ _) rfl)))) (r:=[]) (l:=[]) (s':=[]) rfl) (by intro q;rw[List.map_eq_nil_iff]at q;rw[q]at hil;simp at hil) (El.loops _) ?_;intro cs3 fz hcs3 hfz;have hk0:∀j:Nat,j≠25->j≠45->∀x∈fz,x.k≠j:=by intro j h1 h2 x hx q;have:=hfz x hx;simp at this;omega
 generalize hH2:Eff.app H1 (Eff.pat ((0+53)::([25]++[]++([45]++[]++[])++[]++[])) (fz++[⟨0+53,H1.next (0+53),.blk cs3 5 true false false⟩]))=H2;have p1:H2.get 1=H1.get 1:=by rw[<-hH2,rF (hk0 1 (by omega) (by omega)),if_neg (by omega)]
 have p9:H2.get 9=H1.get 9:=by rw[<-hH2,rF (hk0 9 (by omega) (by omega)),if_neg (by omega)]
 have p53:H2.get 53=some (0,.blk cs3 5 true false false):=by rw[<-hH2,rF (hk0 (0+53) (by omega) (by omega)),if_pos rfl];simp only[Nat.zero_add,m53]
 clear hH2;rw[q1]at p1;rw[q9]at p9;simp only[Nat.zero_add,m53,aZ,hil];simp only[p1,go_sem,seval];refine cC ?_;simp only[p9,go_sem,seval];generalize hH:Hp.put (Hp.put H2 1 0 _) 9 0 _=H3;have ho3:Own H3 53 5 true (.rf 53 0 0 (n.loops.es.length+1) (n.loops.es.length+1)) ((kV o i k.toNat n.loops.es).map Loop.av):=.inr ⟨0,cs3,by rw[aZ,hil],by rw[<-hH,aI,if_neg (by omega),aI,if_neg (by omega)];exact p53,hcs3⟩;obtain⟨nl9,cl9,keys9,hsn9,_⟩:=ho3.snap (El.loops _) 60;refine⟨_,nI hsn9 (by simp[go_sem]) rfl,?_⟩;unfold iJ;rw[if_pos (by rw[hE,b5,b6,b7,b8,b9];rfl)];exact⟨x,o,i,⟨nl9,kV o i k.toNat n.loops.es,cl9,by rw[hil];simp only[big];omega⟩,hx,two,rfl,rfl⟩
end
end
section
def aHh(x:Loop)(size:Int)(name:Str)(r:AV):Prop:=∃o i:Loop,qG x size name o i/\r = .agg [.str o.v.bs,.int .i64 o.lo.c,.sl o.lo.ts.nl (o.lo.ts.es.map aN.av) o.lo.ts.cl,.sl o.hi.nl (o.hi.es.map Lin.av) o.hi.cl,.int .i64 o.step,.str i.v.bs,.int .i64 i.lo.c,.sl i.lo.ts.nl (i.lo.ts.es.map aN.av) i.lo.ts.cl,.sl i.hi.nl (i.hi.es.map Lin.av) i.hi.cl,.int .i64 i.step]
def aHe(c:Int)(name:Str)(r:AV):Prop:=∃l:Lin,l.strip=(fD name (-c)).strip/\r=l.av
theorem P7{h:Hp}{cs:List AV}{t:AV}{keys:List Nat}(hs:Tev.snap 64 h (.agg cs)=some (t,keys)):conv h (.agg cs)=some t:=by simp only[conv,depth,hs,Option.map_some]
section
variable{pg:Pg}
set_option maxHeartbeats 4000000 in
theorem c764(hf:pg.fs 764=some DG)(h77:∀s:Str,Ret pg 77 [.str s.bs] (.bool (c8 s.bs)))(n:aK)(k size:Int)(name:Str)(m:Int) :
  Ret pg 764 [n.av,.int .i64 k,.int .i64 size,.str name.bs,.int .i64 m] (.int .i64 (bD n.loops.es k size name.bs m)):=by
 have hlb:=n.loops.ok;refine Ret.ofX hf ?_;unfold DG;rw[aK.avc];cases b1:decide (k<0)
 case true=>simp only[b1,go_sem,seval];simp[bD,b1]
 cases b2:decide ((n.loops.es.length:Int)<=k)
 case true=>simp only[b1,b2,go_sem,seval];simp[bD,b1,b2]
 cases b3:decide (size<1)
 case true=>simp only[b1,b2,b3,go_sem,seval];simp[bD,b1,b2,b3]
 cases b4:decide (4096<size)
 case true=>simp only[b1,b2,b3,b4,go_sem,seval];simp[bD,b1,b2,b3,b4]
 have k0:0<=k:=by have:=bQ b1;omega
 have k1:k<n.loops.es.length:=by have:=bQ b2;omega
 have hk0:(0<=k)=True:=eq_true k0;obtain⟨x,hx⟩:∃x,n.loops.es[k.toNat]?=some x:=⟨_,cK (by omega)⟩
 have hE:bD n.loops.es k size name.bs m=if (!decide (x.step=1) || !c8 name.bs||n.loops.es.any (λy=>decide (y.v.bs=name.bs)))=true then 1 else if (decide (4<=(x.hi.es.length:Int))||decide (12<=m))=true then 3 else 0:=by simp only[bD,b1,b2,b3,b4,hx];simp
 rw[hE];cases b5:decide (x.step=1)
 case false=>
  simp only[b1,b2,b3,b4,hk0,hx,b5,go_sem,seval]
  try rfl
 simp only[b1,b2,b3,b4,hk0,hx,b5,go_sem,seval];refine aG (h77 name) ?_;cases b6:c8 name.bs
 case false=>
  simp only[go_sem,seval]
  try rfl
 refine Wk ?_;refine aY n.loops.es (λd r env hp=>env=nL (.int .i64 k) (.str name.bs) (.int .i64 m) (.pt 1 0 0) (.int .i64 d.length)/\hp.get 1=some (0,.blk n.cells 23 true true false)/\n.loops.es.any (λy=>decide (y.v.bs=name.bs))=r.any (λy=>decide (y.v.bs=name.bs))) ?_ ?_ ?_;exact⟨rfl,rfl,rfl⟩;rintro env hp ⟨rfl,g1,hI⟩;rw[aK.cellsE]at g1;rw[hI];cases b8:decide (4<=(x.hi.es.length:Int))
 case true=>simp only[nK,nL,bA,g1,hk0,hx,b8,go_sem,seval];rfl
 cases b9:decide (12<=m);simp only[nK,nL,bA,g1,hk0,hx,b8,b9,go_sem,seval];rfl;simp only[nK,nL,bA,g1,hk0,hx,b8,b9,go_sem,seval];rfl;rintro d y r env hp hes ⟨rfl,g1,hI⟩;obtain⟨hget,e1,e2,ew⟩:=cM hes hlb;have g1':=g1;rw[aK.cellsE]at g1;have hc:(y::r).any (λy=>decide (y.v.bs=name.bs))=(decide (y.v.bs=name.bs)||r.any (λy=>decide (y.v.bs=name.bs))):=rfl;cases b7:decide (y.v.bs=name.bs);simp only[nK,nL,e1,e2,hget,g1,b7,ew,go_sem,seval];exact⟨rfl,rfl,by rw[hI,hc,b7,Bool.false_or]⟩;simp only[nK,nL,e1,e2,hget,g1,b7,go_sem,seval];rw[hI,hc,b7];rfl
set_option maxHeartbeats 4000000 in
theorem c608(hf:pg.fs 608=some DQ)(c:Int)(s:Str):bZ pg 608 [.agg [.int .i64 c,.sl true [] true],.str s.bs,.int .i64 1] (aHe c s):=by
 refine bZ.ofX hf ?_;unfold DQ;refine Wk ?_;refine aY ([]:List Nat) (λd r env hp=>env=HE (.str s.bs) (.int .i64 1) (.pt 1 0 0) (.pt 5 0 0) (.pt 9 0 0) (.bool false) (.int .i64 0)/\hp=Hp.put (Hp.put (Hp.put [] 1 0 (.blk [.int .i64 c,.sl true [] true] 2 true true false)) 5 0 (.blk [.int .i64 0,.sl true [] true] 2 true true false)) 9 0 (.blk [.int .i64 c,.sl true [] true] 2 true true false)) ?_ ?_ ?_;exact⟨rfl,rfl⟩;rintro env hp ⟨rfl,rfl⟩;simp only[HD,HE,go_sem,seval];refine HL (kb:=0) (s:=25) (esz:=2) (ag:=true) (bytes:=24) (xs:=[(⟨s,1⟩:aN).av]) rfl (El.coefs [⟨s,1⟩]) (by simp) (by simp) (by decide) ?_;intro ds hds;have hds':ds=[.str s.bs,.int .i64 1]:=by have:aP 2 true [(⟨s,1⟩:aN).av]=some [.str s.bs,.int .i64 1]:=rfl;rw[hds]at this;exact Option.some.inj this
 subst hds';refine Wk ?_;refine aY ([0]:List Nat) (λd r env hp=>env=AW (.pt 5 0 0) (.pt 9 0 0) (.int .i64 d.length) (.int .i64 d.length)/\hp.get 9=some (0,.blk [.int .i64 c,.rf 25 0 0 1 1] 2 true true false)/\hp.get 25=some (0,.blk [.str s.bs,.int .i64 1] 2 true false false)/\hp.get 5=some (0,.blk [.int .i64 0,.sl true [] true] 2 true true false)) ?_ ?_ ?_;refine⟨rfl,?_,?_,?_⟩<;>simp only[go_sem,seval];rintro env hp ⟨rfl,g9,g25,g5⟩;have z1:jF hp 2 false true false [.rf 25 0 0 1 1,.int .i64 1]=some (.rf 25 0 0 1 1,.pat [25] []):=by simp[jF,gT,jS,g25]
 simp only[AU,AW,g9,g25,g5,↓z1,go_sem,seval];generalize hH:Hp.put _ 5 0 _=H3;have k25:H3.get 25=some (0,.blk [.str s.bs,.int .i64 1] 2 true false false):=by rw[<-hH];simp only[g25,go_sem,seval]
 have e1:Tev.snap 63 H3 (.rf 25 0 0 1 1)=some (.sl false [(⟨s,1⟩:aN).av] false,[25]):=o9 rfl k25 hds (El.coefs [⟨s,1⟩]) 61;have e2:Tev.snap 64 H3 (.agg [.int .i64 c,.rf 25 0 0 1 1])=some (.agg [.int .i64 c,.sl false [(⟨s,1⟩:aN).av] false],[25]++[]):=sJ (d:=62) (d6 rfl (iT e1 (r:=[]) (l:=[]) (s':=[]) rfl));refine⟨(⟨c,⟨false,[⟨s,1⟩],false,by simp[big]⟩⟩:Lin).av,by simp only[conv,depth,e2,Option.map_some];rfl,_,?_,rfl⟩;simp[fD,sC,Lin.strip];rintro d x r env hp hes ⟨rfl,g9,g25,g5⟩;have hd:d=[]/\r=[]:=by
  cases d with
  |nil=>simp at hes;exact⟨rfl,hes.2⟩
  |cons a d=>simp at hes
 obtain⟨rfl,rfl⟩:=hd;simp only[AU,AW,g9,g25,g5,go_sem,seval];refine cC ?_;rfl;rintro d x r env hp hes _;simp at hes
set_option maxHeartbeats 4000000 in
theorem c765(hf:pg.fs 765=some DF)(h582:pg.fs 582=some yA)(h599:pg.fs 599=some x8)(h608:∀(c:Int) (s:Str),bZ pg 608 [.agg [.int .i64 c,.sl true [] true],.str s.bs,.int .i64 1] (aHe c s))(x:Loop)(hx:x.hi.es≠[])(hb:x.hi.es.length<big)(size:Int)(name:Str) :
  bZ pg 765 [x.av,.int .i64 size,.str name.bs] (aHh x size name):=by
 refine bZ.ofX hf ?_;unfold DF;refine Wk ?_;refine HL (kb:=0) (s:=9) (esz:=2) (ag:=true) (bytes:=32) (xs:=x.hi.es.map Lin.av) rfl (El.lins _) (by simpa using hx) (by rw[aZ];simp only[big]at hb;omega) (by decide) ?_;intro ds hds;rw[aZ];refine Wk ?_;refine cS (c599 h599 name) (by simp only[go_sem,seval]) (by rw[Lin.avc];rfl) (Wk ?_);have hg9:∀(H:Hp)(e:Nat),(H.put 9 e (Ob.blk ds 2 true false false)).get 9=some (e,Ob.blk ds 2 true false false):=λH e=>by rw[aI,if_pos rfl]
 refine TZ (kb:=0) (s:=17) (esz:=2) (ag:=true) (bytes:=32) rfl (by rw[aZ]) (hg9 _ _) hds (El.lins _) (by simpa using hx) (by simp only[big]at hb;omega) (by decide) (Wk ?_);refine aG (c582 h582 size) (Wk ?_);obtain⟨r,hr,l,hl,rfl⟩:=h608 size name;refine cS hr (by simp only[go_sem,seval]) (by rw[Lin.avc];rfl) (Wk ?_);have hg17:∀(H:Hp)(e:Nat),(H.put 17 e (Ob.blk ds 2 true false false)).get 17=some (e,Ob.blk ds 2 true false false):=λH e=>by rw[aI,if_pos rfl]
 refine HK (kb:=0) (s:=29) (bytes:=32) (esz:=2) (ag:=true) (n:=x.hi.es.length) (by rw[aZ]) (hg17 _ _) hds (by omega) (El.lins x.hi.es) (xs:=[l.av]) (by intro y hy;rw[List.mem_singleton.1 hy];exact El.lin _) (by simp) (by simp only[big,List.length_singleton]at hb ⊢;omega) (by decide) ?_;intro ds2 hds2;rw[List.length_singleton];refine Wk ?_;refine cC ?_;generalize hH:Hp.put _ 5 0 _=H3;have k9:H3.get 9=some (0,.blk ds 2 true false false):=by rw[<-hH];simp only[go_sem,seval]
 have k29:H3.get 29=some (0,.blk ds2 2 true false false):=by rw[<-hH];simp only[go_sem,seval]
 have e1:Tev.snap 63 H3 (.rf 9 0 0 x.hi.es.length x.hi.es.length)=some (.sl false (x.hi.es.map Lin.av) false,[9]):=o9 (by rw[aZ]) k9 hds (El.lins _) 61;have hel2:∀y∈x.hi.es.map Lin.av++[l.av],El 2 true y:=by intro y hy;rcases i8.1 hy with h|h;exact El.lins _ y h;rw[List.mem_singleton.1 h];exact El.lin _
 have e2:Tev.snap 63 H3 (.rf 29 0 0 (x.hi.es.length+1) (x.hi.es.length+1))=some (.sl false (x.hi.es.map Lin.av++[l.av]) false,[29]):=o9 (by simp) k29 hds2 hel2 61;have hts:∀l:Lin,(AV.sl l.ts.nl (l.ts.es.map aN.av) l.ts.cl).tree=true:=λl=>by simp only[go_sem,seval]
 have hsn:=sJ (d:=62) (h:=H3) (d6 (x:=AV.str name.bs) rfl (d6 (x:=.int .i64 x.lo.c) rfl (d6 (hts x.lo) (iT e1 (d6 (x:=.int .i64 size) rfl (d6 (x:=.str x.v.bs) rfl (d6 (x:=.int .i64 (fD name 0).c) rfl (d6 (hts (fD name 0)) (iT e2 (d6 (x:=.int .i64 1) (r:=[]) (l:=[]) (s':=[]) rfl rfl))))))))));refine⟨_,P7 hsn,⟨name,x.lo,⟨false,x.hi.es,false,x.hi.ok⟩,size⟩,⟨x.v,fD name 0,⟨false,x.hi.es++[l],false,by simp only[cA,List.length_singleton];omega⟩,1⟩,⟨rfl,rfl,rfl,rfl,rfl,rfl,rfl,⟨l,rfl,hl⟩,rfl,rfl⟩,?_⟩;simp only[List.map_append,List.map_cons,List.map_nil]
set_option maxHeartbeats 4000000 in
theorem c747(hf:pg.fs 747=some DL)(h764:∀(n:aK) (k size:Int) (name:Str) (m:Int),Ret pg 764 [n.av,.int .i64 k,.int .i64 size,.str name.bs,.int .i64 m] (.int .i64 (bD n.loops.es k size name.bs m)))
  (h765:∀x:Loop,x.hi.es≠[]->x.hi.es.length<big->∀(size:Int)(name:Str),bZ pg 765 [x.av,.int .i64 size,.str name.bs] (aHh x size name)) (n:aK) (hw:∀x∈n.loops.es,wfL x/\x.hi.es≠[]/\x.hi.es.length<big) (k size:Int) (name:Str):bZ pg 747 [n.av,.int .i64 k,.int .i64 size,.str name.bs] (iJ n k size name):=by
 have hlb:=n.loops.ok;have a1:=h764 n k size name n.loops.es.length;rw[aK.avc]at a1;refine bZ.ofX hf ?_;unfold DL;rw[aK.avc];refine Wk ?_;refine aG a1 ?_;by_cases he:bD n.loops.es k size name.bs n.loops.es.length=0
 case neg=>have hd:decide (bD n.loops.es k size name.bs n.loops.es.length=0)=false:=decide_eq_false he;simp only[hd,go_sem,seval];exact dZ rfl he
 obtain⟨x,hx,k0,k1,_,h4,h12⟩:=mM he;obtain⟨w1,w2,w3⟩:=hw x (List.mem_of_getElem? hx);obtain⟨r,hr,o,i,two,rfl⟩:=h765 x w2 w3 size name;rw[Loop.avc]at hr;have hd:decide (bD n.loops.es k size name.bs n.loops.es.length=0)=true:=decide_eq_true he;clear a1;simp only[hd,go_sem,seval];refine aY n.loops.es (λd r env hp=>∃v k',env=sQ (.int .i64 k) (.int .i64 size) (.str name.bs) (.pt 1 0 0) (.pt 5 0 0) v (.int .i64 d.length)/\Own hp k' 5 true v ((j2 o i k.toNat d).map Loop.av)/\(k'=21\/k'=25)/\hp.get 1=some (0,.blk n.cells 23 true true false)/\hp.get 5=some (0,.blk kE.cells 23 true true false)) ?_ ?_ ?_;exact⟨_,21,rfl,Own.nil _ _ _ _ true true rfl,.inl rfl,rfl,rfl⟩;rintro env h2 ⟨v,k',rfl,ho,hk',g1,g5⟩;rw[aK.cellsE]at g1;rw[fE]at g5;obtain⟨c1,c2,c3⟩:=ho.cell;simp only[sP,sQ,bA,g1,g5,c1,c2,c3,go_sem,seval];generalize hH:Hp.put (Hp.put h2 1 0 _) 5 0 _=H3;have ho3:Own H3 k' 5 true v ((j2 o i k.toNat n.loops.es).map Loop.av):=ho.mono (by rw[<-hH,aI,if_neg (by omega),aI,if_neg (by omega)]);obtain⟨nl9,cl9,keys9,hsn9,_⟩:=ho3.snap (El.loops _) 60;refine⟨_,nI hsn9 (by simp[go_sem]) rfl,?_⟩;unfold iJ;rw[if_pos he];have hia:j2 o i k.toNat n.loops.es=kV o i k.toNat n.loops.es:=LR (by omega);have hil:(kV o i k.toNat n.loops.es).length=n.loops.es.length+1:=uU (by omega);exact⟨x,o,i,⟨nl9,j2 o i k.toNat n.loops.es,cl9,by rw[hia,hil];simp only[big];omega⟩,hx,two,hia,rfl⟩;rintro d y r env h2 he2 ⟨v,k',rfl,ho,hk',g1,g5⟩;obtain⟨hget,f1,f2,fw⟩:=cM he2 hlb;rw[aK.cellsE]at g1;have hn1:k' ≠ 1:=by omega
 have hn5:k' ≠ 5:=by omega
 have hil:=LQ o i k.toNat d;have hdl:d.length<n.loops.es.length:=by rw[he2];simp
 cases b1:decide ((d.length:Int)=k);simp only[sP,sQ,f1,f2,hget,g1,b1,go_sem,seval];refine BO (kb:=0) (s:=25) ho (El.loops _) (xs:=[y.av]) (by intro z hz;rw[List.mem_singleton.1 hz];exact El.loop _) (by simp) (by simp only[aZ,List.length_singleton];omega) (by decide) ?_;intro v' rd pa ho' hk;simp only[fw,go_sem,seval];refine⟨v',25,rfl,?_,.inr rfl,?_,?_⟩;have hne:d.length≠k.toNat:=by have:=bQ b1;omega
 have:j2 o i k.toNat (d++[y])=j2 o i k.toNat d++[y]:=by rcases Nat.lt_or_gt_of_ne hne with h|h;exact P0 h;exact P1 h
 rw[this,List.map_append];exact ho';exact(hk 1 (by omega) (by omega)).trans (by rw[aK.cellsE];exact g1);exact(hk 5 (by omega) (by omega)).trans g5;have hkd:d.length=k.toNat:=by have:=aR b1;omega
 rw[<-hkd,hget]at hx;cases hx;simp only[sP,sQ,f1,f2,hget,g1,b1,go_sem,seval];refine aG hr (Wk ?_);generalize hH:Hp.put (Hp.put h2 17 _ _) 17 _ _=H3;have kq:∀q,q≠17->H3.get q=h2.get q:=λq hq=>by rw[<-hH,aI,if_neg (Ne.symm hq),aI,if_neg (Ne.symm hq)]
 have ho3:Own H3 k' 5 true v ((j2 o i k.toNat d).map Loop.av):=ho.mono (kq k' (by omega));clear hH;refine BO (kb:=0) (s:=21) ho3 (El.loops _) (xs:=[o.av,i.av]) (El.loops [o,i]) (by simp) (by simp only[aZ,List.length_cons,List.length_nil];omega) (by decide) ?_;intro v' rd pa ho' hk;simp only[fw,go_sem,seval];refine⟨v',21,rfl,?_,.inl rfl,?_,?_⟩;rw[P2 hkd,List.map_append];exact ho';exact(hk 1 (by omega) (by omega)).trans ((kq 1 (by omega)).trans (by rw[aK.cellsE];exact g1));exact(hk 5 (by omega) (by omega)).trans ((kq 5 (by omega)).trans g5)
end
end
section
def mB(x:Loop):Prop:=wfL x/\x.hi.es≠[]/\x.hi.es.length<big
theorem qG.good{x:Loop}{size:Int}{name:Str}{o i:Loop}(h:qG x size name o i)(hx:mB x)(h4:x.hi.es.length<4):mB o/\mB i:=by obtain⟨l,hl,_⟩:=h.ihi;refine⟨⟨λq=>?_,?_,?_⟩,λq=>?_,?_,?_⟩;rw[h.onl]at q;cases q;rw[h.ohi];exact hx.2.1;rw[h.ohi];exact hx.2.2;rw[h.inl]at q;cases q;rw[hl];simp;rw[hl];simp only[cA,List.length_singleton,big];omega
theorem EP{ls:List Loop}{d:List Int}{ps:List Pc}(hp:dY 0 (ls.take d.length) d ps)(hd:d.length<ls.length)(hd10:d.length<10)(s:Int) :
  bD (eP ps++ls.drop d.length) ((d.length:Int)+(bX d:Nat)) s (tnB d.length) ((eP ps++ls.drop d.length).length:Nat)=bD ls d.length s (tnB d.length) ((ls.length:Int)+(bX d:Nat)):=by
 have htl:(ls.take d.length).length=d.length:=by simp;omega
 have hcl:=hp.curlen;rw[htl]at hcl;have hl:(eP ps++ls.drop d.length).length=ls.length+bX d:=by rw[cA,hcl,List.length_drop];omega
 have hidx:((d.length:Int)+(bX d:Nat)).toNat=d.length+bX d:=by omega
 have g:(eP ps++ls.drop d.length)[d.length+bX d]?=ls[d.length]?:=by rw[sX (by omega),hcl,Nat.sub_self,List.getElem?_drop];rfl
 have ha:(eP ps++ls.drop d.length).any (λy=>decide (y.v.bs=tnB d.length))=ls.any λy=>decide (y.v.bs=tnB d.length):=by
  have h1:=hp.any (j:=d.length) hd10 (λi _ h2=>by omega) (λi s h1 _=>by
   have:=(bR.1 h1).1;omega)
  rw[List.any_append,h1,<-List.any_append,List.take_append_drop]
 have c1:decide ((d.length:Int)+(bX d:Nat)<0)=false:=decide_eq_false (by omega);have c2:decide (((ls.length+bX d:Nat):Int)<=(d.length:Int)+(bX d:Nat))=false:=decide_eq_false (by omega);have c3:decide ((d.length:Int)<0)=false:=decide_eq_false (by omega);have c4:decide ((ls.length:Int)<=d.length)=false:=decide_eq_false (by omega);have e:((ls.length+bX d:Nat):Int)=(ls.length:Int)+(bX d:Nat):=by omega
 rw[hl];simp only[bD,hl,hidx,g,ha,c1,c2,c3,c4,Int.toNat_natCast];rw[e]
theorem dY.drop{k:Nat}{ls:List Loop}{z:List Int}{ps:List Pc}(h:dY k ls z ps):∀f:Nat,dY (k+f) (ls.drop f) (z.drop f) (ps.drop f):=by
 induction h with
 |nil k=>intro f;simp only[List.drop_nil];exact .nil _
 |keep h0 ih=>
  intro f;cases f with
  |zero=>exact .keep h0
  |succ f=>have:=ih f;rw[Nat.add_assoc,Nat.add_comm 1 f]at this;simpa using this
 |cut hs ht h0 ih=>
  intro f;cases f with
  |zero=>exact .cut hs ht h0
  |succ f=>have:=ih f;rw[Nat.add_assoc,Nat.add_comm 1 f]at this;simpa using this
theorem nD(z:List Int):bH z<=z.length:=List.findIdx_le_length
theorem dY.first{k:Nat}{ls:List Loop}{z:List Int}{ps:List Pc}(h:dY k ls z ps):ps.take (bH z)=(ls.take (bH z)).map λx=>(none,x):=by
 induction h with
 |nil=>rfl
 |keep _ ih=>
  rename_i z ps _;have e:bH (0::z)=bH z+1:=by rw[bH,List.findIdx_cons];rfl
  rw[e,List.take_succ_cons,List.take_succ_cons,ih];rfl
 |cut hs _ _ _=>
  rename_i s z ps o i _ _ _;have e:bH (s::z)=0:=by rw[bH,List.findIdx_cons];simp[hs]
  rw[e];rfl
theorem vC:∀(l:List Loop),eP (l.map λx=>(none,x))=l
 |[]=>rfl
 |x::r=>by have:=vC r;simp only[eP]at this;simp[eP,pcL,this]
theorem tN:∀l:List Loop,(l.map λx=>((none:Option Loop),x)).filterMap (·.1)=[]
 |[]=>rfl
 |x::r=>by simpa using tN r
theorem m7(a b:List Pc):eP (a++b)=eP a++eP b:=by simp[eP]
theorem dY.split{ls:List Loop}{z:List Int}{ps:List Pc}(h:dY 0 ls z ps):eP ps=ls.take (bH z)++eP (ps.drop (bH z)):=by
 have e:ps=ps.take (bH z)++ps.drop (bH z):=(List.take_append_drop _ _).symm
 conv=>lhs;rw[e]
 rw[m7,h.first,vC]
theorem dY.outs_drop{ls:List Loop}{z:List Int}{ps:List Pc}(h:dY 0 ls z ps):ps.filterMap (·.1)=(ps.drop (bH z)).filterMap (·.1):=by
 have e:ps=ps.take (bH z)++ps.drop (bH z):=(List.take_append_drop _ _).symm
 conv=>lhs;rw[e]
 rw[List.filterMap_append,h.first];rw[tN,List.nil_append]
theorem dY.part{k:Nat}{ls:List Loop}{z:List Int}{ps:List Pc}(h:dY k ls z ps)(P:List UInt8->Bool)(hP:∀(i:Nat) (s:Int),z[i]?=some s->s≠0->P (tnB (k+i))=true)(hN:∀x∈ls,P x.v.bs=false) :
  (eP ps).filter (λy=>P y.v.bs)=ps.filterMap (·.1)/\(eP ps).filter (λy => !P y.v.bs)=ps.map (·.2):=by
 induction h with
 |nil=>exact⟨rfl,rfl⟩
 |keep _ ih=>rename_i k x r z ps _;obtain⟨i1,i2⟩:=ih (λi s h1 h2=>by have:=hP (i+1) s (by simpa using h1) h2;rwa [Nat.add_comm i 1,<-Nat.add_assoc]at this) (λy hy=>hN y (bS _ hy));have hx:=hN x List.mem_cons_self;simp only[eP,List.flatMap_cons,pcL,Option.toList,List.nil_append,List.cons_append]at i1 i2 ⊢;rw[List.filter_cons,List.filter_cons,i1,i2,hx];simp
 |cut hs ht _ ih=>
  rename_i k x r s z ps o i _;obtain⟨i1,i2⟩:=ih (λi s h1 h2=>by have:=hP (i+1) s (by simpa using h1) h2;rwa [Nat.add_comm i 1,<-Nat.add_assoc]at this) (λy hy=>hN y (bS _ hy));have hx:=hN x List.mem_cons_self;have ho:P o.v.bs=true:=by rw[ht.ov];exact hP 0 s rfl hs
  have hi:P i.v.bs=false:=by rw[ht.iv];exact hx
  simp only[eP,List.flatMap_cons,pcL,Option.toList,List.nil_append,List.cons_append]at i1 i2 ⊢;rw[List.filter_cons,List.filter_cons,List.filter_cons,List.filter_cons,i1,i2,ho,hi];simp
theorem zY{ls:List Loop}:∀{z:List Int}{k a:Nat},fe ls k a z=0->∀(i:Nat)(s:Int),z[i]?=some s->s≠0->ls.any (λy=>decide (y.v.bs=tnB (k+i)))=false
 |[],_,_,_,i,s,hi,_=>by simp at hi
 |t::z,k,a,h,i,s,hi,hs=>by
  rw[fe]at h;cases i with
  |zero=>simp at hi;subst hi;rw[if_neg hs]at h;by_cases he:bD ls k t (tnB k) ((ls.length:Int)+a)=0;obtain⟨_,_,_,_,h5,_⟩:=mM he;exact h5;rw[if_neg he]at h;exact absurd h he
  |succ i=>
   have hi':z[i]?=some s:=by simpa using hi
   have e:k+(i+1)=k+1+i:=by omega
   rw[e];by_cases ht:t=0;rw[if_pos ht]at h;exact zY h i s hi' hs;rw[if_neg ht]at h;by_cases he:bD ls k t (tnB k) ((ls.length:Int)+a)=0;rw[if_pos he]at h;exact zY h i s hi' hs;rw[if_neg he]at h;exact absurd h he
def nms:Nat->List Int->List Str
 |_,[]=>[]
 |k,s::r=>if s=0 then nms (k+1) r else tn k::nms (k+1) r
theorem tP:∀(z:List Int)(k:Nat)(s:Int),nms k (z++[s])=nms k z++if s=0 then [] else [tn (k+z.length)]
 |[],k,s=>by by_cases h:s=0<;>simp[nms,h]
 |t::z,k,s=>by
  have ih:=tP z (k+1) s;have e:k+1+z.length=k+(t::z).length:=by simp;omega
  rw[e]at ih;by_cases h:t=0;simp[nms,h,ih];simp[nms,h,ih]
theorem zM:∀(z:List Int)(k:Nat),(nms k z).length=bX z
 |[],_=>rfl
 |t::z,k=>by have ih:=zM z (k+1);by_cases h:t=0;simp only[nms,h,if_true,bX]at ih ⊢;simpa using ih;simp only[nms,if_neg h,bX]at ih ⊢;simp[ih,h]
theorem zL:∀(z:List Int)(k:Nat)(x:Str),x∈nms k z↔∃(i:Nat)(s:Int),z[i]?=some s/\s≠0/\x=tn (k+i)
 |[],k,x=>by simp[nms]
 |t::z,k,x=>by
  have ih:=zL z (k+1) x;have e:(∃(i:Nat)(s:Int),(t::z)[i]?=some s/\s≠0/\x=tn (k+i))↔(t≠0/\x=tn k)\/∃(i:Nat)(s:Int),z[i]?=some s/\s≠0/\x=tn (k+1+i):=by
   constructor;rintro⟨i,s,h1,h2,h3⟩;cases i with
   |zero=>simp at h1;subst h1;exact .inl ⟨h2,h3⟩
   |succ i=>exact .inr ⟨i,s,by simpa using h1,h2,by rw[h3,Nat.add_assoc,Nat.add_comm 1 i]⟩
   rintro(⟨h1,h2⟩|⟨i,s,h1,h2,h3⟩);exact⟨0,t,rfl,h1,h2⟩;exact⟨i+1,s,by simpa using h1,h2,by rw[h3,Nat.add_assoc,Nat.add_comm 1 i]⟩
  rw[e,<-ih];by_cases h:t=0;simp[nms,h];simp[nms,h]
theorem fW(z:List Int)(s:Int):bX (z++[s])=bX z+if s=0 then 0 else 1:=by by_cases h:s=0<;>simp[bX,h]
theorem sM(z:List Int):bX z<=z.length:=List.length_filter_le _ _
def oQ(z:List Int):Int:=if bX z=0 then -1 else (bH z:Int)
theorem lL{z:List Int}:bX z≠0↔bH z<z.length:=by rw[bH,List.findIdx_lt_length];simp[bX,List.filter_eq_nil_iff]
theorem nH{z:List Int}(h:bX z=0):bH z=z.length:=by have h1:=nD z;have h2:¬bH z<z.length:=λq=>lL.2 q h;omega
theorem FJ(z:List Int):oQ (z++[0])=oQ z:=by
 have e:bX (z++[0])=bX z:=by simp[fW]
 rw[oQ,oQ,e];by_cases h:bX z=0;rw[if_pos h,if_pos h];rw[if_neg h,if_neg h];have h2:=lL.1 h;rw[bH]at h2;rw[bH,bH,List.findIdx_append,if_pos h2]
theorem JB(z:List Int){s:Int}(hs:s≠0):oQ (z++[s])=if oQ z<0 then (z.length:Int) else oQ z:=by
 have e:bX (z++[s])≠0:=by simp[fW,hs]
 rw[oQ,if_neg e,oQ];by_cases h:bX z=0;rw[if_pos h,if_pos (by decide)];have h2:¬bH z<z.length:=λq=>lL.2 q h;have h3:=nD z;rw[bH]at h2;rw[bH,List.findIdx_append,if_neg h2];simp[List.findIdx_cons,hs];rw[if_neg h,if_neg (by omega)];have h2:=lL.1 h;rw[bH]at h2;rw[bH,bH,List.findIdx_append,if_pos h2]
theorem HU{ls:List Loop}{z:List Int}{ps:List Pc}(h:dY 0 ls z ps)(hf:fe ls 0 0 z=0) :
  eZ ls z ps=(eP ps).take (bH z)++((eP ps).drop (bH z)).filter (λy=>cN (nms 0 z) y.v.bs)++((eP ps).drop (bH z)).filter (λy => !cN (nms 0 z) y.v.bs):=by
 have hl:=h.len;have hfl:(ls.take (bH z)).length=bH z:=by have:=nD z;simp;omega
 have e1:(eP ps).take (bH z)=ls.take (bH z):=by rw[h.split,List.take_append_of_le_length (by omega),List.take_of_length_le (by omega)]
 have e2:(eP ps).drop (bH z)=eP (ps.drop (bH z)):=by rw[h.split,List.drop_append_of_le_length (by omega),List.drop_of_length_le (by omega),List.nil_append]
 obtain⟨p1,p2⟩:=(h.drop (bH z)).part (λv=>cN (nms 0 z) v) (by
  intro i s h1 h2;rw[cN,List.any_eq_true];rw[List.getElem?_drop]at h1;exact⟨tn (bH z+i),(zL _ _ _).2 ⟨_,s,h1,h2,by rw[Nat.zero_add]⟩,by simp[tn]⟩) (by
  intro x hx;have hx:=List.mem_of_mem_drop hx;rw[cN,List.any_eq_false];intro y hy;obtain⟨i,s,h1,h2,rfl⟩:=(zL _ _ _).1 hy;have:=zY hf i s h1 h2;rw[List.any_eq_false]at this;exact this x hx)
 rw[eZ,e1,e2,p1,p2,h.outs_drop]
theorem LS{o i:Loop}{ps:List Pc}{ls:List Loop}{d:Nat}{x:Loop}(hd:ls[d]?=some x):kV o i (eP ps).length (eP ps++ls.drop d)=eP (ps++[(some o,i)])++ls.drop (d+1):=by rw[kV,List.take_left,List.drop_append,List.drop_of_length_le (by omega),List.nil_append,m7,Nat.add_sub_cancel_left,List.drop_drop];rfl
theorem MV{ps:List Pc}{ls:List Loop}{d:Nat}{x:Loop}(hd:ls[d]?=some x):eP ps++ls.drop d=eP (ps++[(none,x)])++ls.drop (d+1):=by have hl:=(bR.1 hd).1;rw[qI hl,m7,List.append_assoc];have:ls[d]=x:=(bR.1 hd).2;rw[this];rfl
end
section
section
variable{pg:Pg}
def jR(n:aK)(a j:Nat)(s f:Int)(m:List Str)(h:Hp)(r:AV)(h':Hp):Prop:=
 if bD n.loops.es ((j:Int)+a) s (tnB j) n.loops.es.length=0 then
  ∃(x o i:Loop)(q:Sl Loop),n.loops.es[j+a]?=some x/\qG x s (tn j) o i/\q.es=kV o i (j+a) n.loops.es/\r = .int .i64 0/\h'.get 1=some (0,.blk ({n with loops:=q}:aK).cells 23 true true false) /\
   h'.get 17=some (0,.blk [.int .i64 ((a:Int)+1)] 1 false true false)/\h'.get 13=some (0,.blk [.int .i64 (if f<0 then (j:Int) else f)] 1 false true false) /\
   (∃v,h'.get 21=some (0,.blk [v] 1 false true false)/\Own h' 1703949 1 false v ((m++[tn j]).map Str.av))/\h'.get 5=h.get 5/\h'.get 9=h.get 9
 else r = .int .i64 (bD n.loops.es ((j:Int)+a) s (tnB j) n.loops.es.length)/\h'.get 9=h.get 9
theorem yS{n:aK}{a j:Nat}{s f:Int}{m:List Str}{h h':Hp}(he:bD n.loops.es ((j:Int)+a) s (tn j).bs n.loops.es.length≠0)(h9:h'.get 9=h.get 9):jR n a j s f m h (.int .i64 (bD n.loops.es ((j:Int)+a) s (tn j).bs n.loops.es.length)) h':=by unfold jR;rw[if_neg (show ¬bD n.loops.es ((j:Int)+a) s (tnB j) n.loops.es.length=0 from he)];exact⟨rfl,h9⟩
theorem BW{n:aK}{a j:Nat}{s f:Int}{m:List Str}{h h':Hp}{x o i:Loop}{q:Sl Loop}{v:AV}(he:bD n.loops.es ((j:Int)+a) s (tn j).bs n.loops.es.length=0)(h1:n.loops.es[j+a]?=some x)(h2:qG x s (tn j) o i)(h3:q.es=kV o i (j+a) n.loops.es)
  (g1:h'.get 1=some (0,.blk ({n with loops:=q}:aK).cells 23 true true false)) (g17:h'.get 17=some (0,.blk [.int .i64 ((a:Int)+1)] 1 false true false)) (g13:h'.get 13=some (0,.blk [.int .i64 (if f<0 then (j:Int) else f)] 1 false true false))
  (g21:h'.get 21=some (0,.blk [v] 1 false true false)) (ho:Own h' 1703949 1 false v ((m++[tn j]).map Str.av)) (g5:h'.get 5=h.get 5) (g9:h'.get 9=h.get 9):jR n a j s f m h (.int .i64 0) h':=by
 unfold jR;rw[if_pos (show bD n.loops.es ((j:Int)+a) s (tnB j) n.loops.es.length=0 from he)];exact⟨x,o,i,q,h1,h2,h3,rfl,g1,g17,g13,⟨v,g21,ho⟩,g5,g9⟩
set_option maxHeartbeats 4000000 in
theorem c766(hf:pg.fs 766=some DE)(h93:∀i:Nat,i<10->Ret pg 93 [.int .i64 i] (.str [UInt8.ofNat (48+i)]))
  (h746:∀n:aK,(∀x∈n.loops.es,wfL x/\x.hi.es≠[]/\x.hi.es.length<big)->∀(k size:Int)(name:Str),bZ pg 746 [n.av,.int .i64 k,.int .i64 size,.str name.bs] (iJ n k size name))
  (h:Hp) (n:aK) (hw:∀x∈n.loops.es,wfL x/\x.hi.es≠[]/\x.hi.es.length<big) (a j:Nat) (hj:j<10) (ha:a<=big) (z:List Int) (nl cl:Bool) (s f:Int) (hz:z[j]?=some s) (v:AV) (m:List Str) (hm:m.length<=big)
  (g1:h.get 1=some (0,.blk n.cells 23 true true false)) (g17:h.get 17=some (0,.blk [.int .i64 a] 1 false true false)) (g5:h.get 5=some (0,.blk [.sl nl (z.map bL) cl] 1 false true false))
  (g13:h.get 13=some (0,.blk [.int .i64 f] 1 false true false)) (g21:h.get 21=some (0,.blk [v] 1 false true false)) (ho:Own h 1703949 1 false v (m.map Str.av)) :
  qH pg 766 [.int .i64 j,.pt 1 0 0,.pt 17 0 0,.pt 5 0 0,.pt 13 0 0,.pt 21 0 0] 1703936 h (jR n a j s f m h):=by
 have hjl:j<z.length:=(bR.1 hz).1;have hgi:(z.map bL)[j]?=some (.int .i64 s):=by rw[List.getElem?_map,hz];rfl
 have e1:((j:Int)<(z.length:Int))=True:=eq_true (by omega);have wj:wr .i64 ((j:Int)+(a:Int))=(j:Int)+(a:Int):=eB (by omega) (by simp only[big]at ha;omega);have wa:wr .i64 ((a:Int)+1)=(a:Int)+1:=eB (by omega) (by simp only[big]at ha;omega);have g1':=g1;rw[aK.cellsE]at g1;obtain⟨r,hr,hs⟩:=h746 n hw ((j:Int)+a) s (tn j);rw[aK.avc]at hr;have htn:[(116:UInt8)]++[UInt8.ofNat (48+j)]=(tn j).bs:=rfl;refine qH.ofX hf ?_;unfold DE;refine Wk ?_;refine aG (h93 j hj) ?_;simp only[g1,g17,g5,hgi,e1,wj,htn,go_sem,seval];unfold iJ at hs;have hidx:((j:Int)+(a:Int)).toNat=j+a:=by omega
 by_cases he:bD n.loops.es ((j:Int)+a) s (tn j).bs n.loops.es.length=0
 case neg=>rw[if_neg he]at hs;subst hs;have hd:=decide_eq_false he;refine cS hr (by simp only[go_sem,seval]) (by first|rfl|(rw[aK.avc];rfl)|(simp only[aK.avc];rfl)) (Wk ?_);refine cC ?_;simp only[hd,go_sem,seval];exact yS he (by simp only[go_sem,seval])
 rw[if_pos he]at hs;obtain⟨x,o,i,q,hx,two,hq,rfl⟩:=hs;rw[hidx]at hx hq;refine cS hr (by simp only[go_sem,seval]) (by first|rfl|(rw[aK.avc];rfl)|(simp only[aK.avc];rfl)) (Wk ?_);refine cC ?_;cases b1:decide (f<0)
 all_goals
  have hf1:=b1;simp only[cY,sY]at hf1;simp only[g13,g1,g21,b1,go_sem,seval];generalize hH:Hp.put _ 1 0 _=H3;have k1:H3.get 1=some (0,.blk ({n with loops:=q}:aK).cells 23 true true false):=by rw[<-hH];simp only[go_sem,seval];rfl
  have k17:H3.get 17=some (0,.blk [.int .i64 a] 1 false true false):=by rw[<-hH];simp only[g17,go_sem,seval]
  have k5:H3.get 5=h.get 5:=by rw[<-hH];simp only[go_sem,seval]
  have k9:H3.get 9=h.get 9:=by rw[<-hH];simp only[go_sem,seval]
  have k13:H3.get 13=some (0,.blk [.int .i64 (if f<0 then (j:Int) else f)] 1 false true false):=by
   first|rw[if_pos hf1]|rw[if_neg hf1]
   rw[<-hH];simp only[g13,go_sem,seval]
  have k21:H3.get 21=some (0,.blk [v] 1 false true false):=by rw[<-hH];simp only[g21,go_sem,seval]
  have ko:Own H3 1703949 1 false v (m.map Str.av):=ho.mono (by rw[<-hH];simp only[go_sem,seval]);clear hH;refine nA (kb:=1703936) (s:=13) ko (El.strs _) (xs:=[(tn j).av]) (El.strs [tn j]) (by rw[aZ];simp only[List.length_singleton,big]at hm ⊢;omega) (by decide) ?_;intro v' rd pa ho' hk _;obtain⟨c1,c2,c3⟩:=ho'.cell;have j1:=(hk 1 (by omega)).trans k1;have j17:=(hk 17 (by omega)).trans k17;have j5:=(hk 5 (by omega)).trans k5;have j9:=(hk 9 (by omega)).trans k9;have j13:=(hk 13 (by omega)).trans k13;have j21:=(hk 21 (by omega)).trans k21;rw[show List.map Str.av m++[(tn j).av]=(m++[tn j]).map Str.av by rw[List.map_append];rfl]at ho';generalize Eff.app H3 (Eff.pat rd pa)=H4 at ho' j1 j17 j5 j9 j13 j21 ⊢;simp only[j21,c1,c2,c3,j17,wa,go_sem,seval];refine BW he hx two hq ?_ ?_ ?_ (v:=v') ?_ (ho'.mono ?_) ?_ ?_
  all_goals simp only[j1,j17,j5,j9,j13,j21,go_sem,seval]
end
end
section
def TI(n:aK)(z:List Int)(nl cl:Bool)(d r:List Int)(hp:Hp):Prop:=
 ∃(ps:List Pc)(q:Sl Loop)(v:AV),dY 0 (n.loops.es.take d.length) d ps/\q.es=eP ps++n.loops.es.drop d.length/\(∀x∈q.es,mB x)/\fe n.loops.es 0 0 z=fe n.loops.es d.length (bX d) r /\
  hp.get 1=some (0,.blk ({n with loops:=q}:aK).cells 23 true true false)/\hp.get 17=some (0,.blk [.int .i64 (bX d:Nat)] 1 false true false)/\hp.get 5=some (0,.blk [.sl nl (z.map bL) cl] 1 false true false) /\
  hp.get 13=some (0,.blk [.int .i64 (oQ d)] 1 false true false)/\hp.get 21=some (0,.blk [v] 1 false true false)/\Own hp 1703949 1 false v ((nms 0 d).map Str.av)/\hp.get 9=some (0,.blk kE.cells 23 true true false)
section
variable{pg:Pg}
set_option maxHeartbeats 8000000 in
theorem c748 (hf:pg.fs 748=some DK) (h766:∀(h:Hp)(n:aK),(∀x∈n.loops.es,wfL x/\x.hi.es≠[]/\x.hi.es.length<big)->∀a j:Nat,j<10->a<=big->∀(z:List Int)(nl cl:Bool)(s f:Int),z[j]?=some s->∀(v:AV)(m:List Str),m.length<=big ->
   h.get 1=some (0,.blk n.cells 23 true true false)->h.get 17=some (0,.blk [.int .i64 a] 1 false true false)->h.get 5=some (0,.blk [.sl nl (z.map bL) cl] 1 false true false)->h.get 13=some (0,.blk [.int .i64 f] 1 false true false) ->
   h.get 21=some (0,.blk [v] 1 false true false)->Own h 1703949 1 false v (m.map Str.av)->qH pg 766 [.int .i64 j,.pt 1 0 0,.pt 17 0 0,.pt 5 0 0,.pt 13 0 0,.pt 21 0 0] 1703936 h (jR n a j s f m h))
  (h98:pg.fs 98=some MZ) (h138:pg.fs 138=some yF) (h763:pg.fs 763=some vI) (h784:pg.fs 784=some rV)
  (h758:∀(nl cl:Bool)(ls:List Loop),ls.length<=big->(∀x∈ls,wfL x/\x.hi.es≠[]/\x.hi.es.length<big)->Ret pg 758 [.sl nl (ls.map Loop.av) cl] (.bool (d9 ls)))
  (n:aK) (hw:∀x∈n.loops.es,mB x) (hp0:d9 n.loops.es=true) (hl12:n.loops.es.length<=12) (nl cl:Bool) (z:List Int) (hz10:∀(i:Nat)(s:Int),z[i]?=some s->s≠0->i<10) :
  bZ pg 748 [n.av,.sl nl (z.map bL) cl] (iD n z):=by
 refine bZ.ofX hf ?_;unfold DK;rw[aK.avc];cases b0:decide ((z.length:Int)=(n.loops.es.length:Int))
 case false=>
  have hne:z.length≠n.loops.es.length:=by have:=bQ b0;omega
  simp only[b0,go_sem,seval];unfold iD;rw[if_pos hne];rfl
 have hzl:z.length=n.loops.es.length:=by have:=aR b0;omega
 have hzb:z.length<=big:=by simp only[big];omega
 simp only[b0,go_sem,seval];refine aY z (λd r env hp=>env=pS (.pt 1 0 0) (.pt 9 0 0) (.pt 13 0 0) (.pt 21 0 0) (.fn 766 [.pt 1 0 0,.pt 17 0 0,.pt 5 0 0,.pt 13 0 0,.pt 21 0 0]) (.sl nl (z.map bL) cl) (.int .i64 z.length) (.int .i64 d.length)/\TI n z nl cl d r hp) ?_ ?_ ?_;refine⟨rfl,[],n.loops,_,.nil _,rfl,hw,rfl,rfl,rfl,rfl,rfl,rfl,Own.nil _ _ _ _ true true rfl,rfl⟩;rintro env hp ⟨rfl,ps,q,v,hps,hq,hqg,hfe,g1,g17,g5,g13,g21,hv,g9⟩;have hfe0:fe n.loops.es 0 0 z=0:=hfe;have hlp:=hps.len;rw[show n.loops.es.take z.length=n.loops.es from List.take_of_length_le (by omega)]at hps;have hq':q.es=eP ps:=by rw[hq,List.drop_of_length_le (by omega),List.append_nil]
 have hcl:=hps.curlen;have hcz:=sM z;have hfl:=nD z;have hqb:q.es.length<=24:=by rw[hq'];omega
 have g9':=g9;have g1':=g1;rw[fE]at g9;rw[aK.cellsE]at g1;by_cases hc:bX z=0
 case pos=>
  have hf:oQ z = -1:=by rw[oQ,if_pos hc]
  rw[hf]at g13;have hz0:=nH hc;have hls:eP ps=n.loops.es:=by rw[hps.split,hz0,List.take_of_length_le (by omega),List.drop_of_length_le (by have:=hps.len;omega)];simp[eP]
  have hou:ps.filterMap (·.1)=[]:=eY (by rw[hps.outs];exact hc);have htl:eZ n.loops.es z ps=n.loops.es:=by rw[eZ,hz0,List.take_of_length_le (by omega),hou,List.drop_of_length_le (by have:=hps.len;omega)];simp
  simp only[pR,pS,bA,g13,g1,g9,go_sem,seval];unfold iD;rw[if_neg (by omega),if_neg (by omega)];exact⟨ps,hps,by rw[htl,if_pos hp0];exact⟨q,hq'.trans hls,rfl⟩⟩
 have hf:oQ z=(bH z:Nat):=by rw[oQ,if_neg hc]
 rw[hf]at g13
 have hlo:∀h,jF h 5 true false false [.sl q.nl (q.es.map Loop.av) q.cl,.int .i64 (bH z:Nat)]=some (.sl q.nl ((q.es.drop (bH z)).map Loop.av) (q.nl||q.cl),.pat [] []):=λh=>by have:=UE h q.nl q.cl q.es (bH z:Nat) (by omega) (by rw[hq'];omega);rwa [Int.toNat_natCast]at this
 have hb0:decide (((bH z:Nat):Int)<0)=false:=by simp
 have hdl:(q.es.drop (bH z)).length<=big:=by rw[List.length_drop];simp only[big];omega
 simp only[pR,pS,bA,g13,g1,hb0,↓hlo,go_sem,seval]
 refine aY (q.es.drop (bH z)) (λd r env hp=>∃v1 v2,env=AR (.pt 1 0 0) (.pt 9 0 0) (.pt 13 0 0) (.pt 21 0 0) v1 v2 (.sl q.nl ((q.es.drop (bH z)).map Loop.av) (q.nl||q.cl)) (.int .i64 (q.es.drop (bH z)).length) (.int .i64 d.length) /\
  Own hp 37 5 true v1 ((d.filter λy=>cN (nms 0 z) y.v.bs).map Loop.av)/\Own hp 41 5 true v2 ((d.filter λy => !cN (nms 0 z) y.v.bs).map Loop.av)/\hp.get 1=some (0,.blk ({n with loops:=q}:aK).cells 23 true true false)/\hp.get 9=some (0,.blk kE.cells 23 true true false) /\
  hp.get 13=some (0,.blk [.int .i64 (bH z:Nat)] 1 false true false)/\hp.get 21=some (0,.blk [v] 1 false true false)/\Own hp 1703949 1 false v ((nms 0 z).map Str.av)) ?_ ?_ ?_
 exact⟨_,_,rfl,Own.nil _ _ _ _ true true rfl,Own.nil _ _ _ _ true true rfl,g1',g9',g13,g21,hv⟩;rintro env h2 ⟨v1,v2,rfl,o1,o2,k1,k9,k13,k21,kv⟩;rw[aK.cellsE]at k1;rw[fE]at k9
 have hhi:∀h,jF h 5 false true false [.sl q.nl (q.es.map Loop.av) q.cl,.int .i64 (bH z:Nat)]=some (.sl q.nl ((q.es.take (bH z)).map Loop.av) ((q.nl||q.cl)&&((bH z:Nat):Int)==(q.es.length:Int)),.pat [] []):=λh=>by have:=UF h q.nl q.cl q.es (bH z:Nat) (by omega) (by rw[hq'];omega);rwa [Int.toNat_natCast]at this
 obtain⟨n1,c1,y1,hs1,hy1⟩:=o1.snapK (El.loops _) 61;obtain⟨n2,c2,y2,hs2,hy2⟩:=o2.snapK (El.loops _) 61;have hpsl:=hps.len;obtain⟨TL,hTL⟩:∃TL,TL=eZ n.loops.es z ps:=⟨_,rfl⟩
 have hTe:TL=q.es.take (bH z)++(q.es.drop (bH z)).filter (λy=>cN (nms 0 z) y.v.bs)++(q.es.drop (bH z)).filter (λy => !cN (nms 0 z) y.v.bs):=by rw[hTL,HU hps hfe0,hq']
 have hTl:TL.length=n.loops.es.length+bX z:=by rw[hTL,eZ];simp only[cA,List.length_take,aZ,List.length_drop,hps.outs];omega
 have hTg:∀x∈TL,mB x:=by intro x hx;rw[hTe]at hx;simp only[i8,List.mem_filter]at hx;rcases hx with (hx|hx)|hx;exact hqg x (List.mem_of_mem_take hx);exact hqg x (List.mem_of_mem_drop hx.1);exact hqg x (List.mem_of_mem_drop hx.1)
 have htl:∀(ls:List Loop)(nl cl:Bool),(AV.sl nl (ls.map Loop.av) cl).tree=true:=λls nl cl=>by simp only[go_sem,seval]
 have l1:((q.es.drop (bH z)).filter λy=>cN (nms 0 z) y.v.bs).length<=big:=Nat.le_trans (List.length_filter_le _ _) hdl;have l2:((q.es.drop (bH z)).filter λy => !cN (nms 0 z) y.v.bs).length<=big:=Nat.le_trans (List.length_filter_le _ _) hdl
 have hcat:i6 [⟨q.nl,q.es.take (bH z),(q.nl||q.cl)&&((bH z:Nat):Int)==(q.es.length:Int),by rw[List.length_take];simp only[big];omega⟩,⟨n1,(q.es.drop (bH z)).filter λy=>cN (nms 0 z) y.v.bs,c1,l1⟩,⟨n2,(q.es.drop (bH z)).filter λy => !cN (nms 0 z) y.v.bs,c2,l2⟩]=TL:=by rw[hTe];simp[i6]
 have hTb:TL.length<=big:=by rw[hTl];simp only[big];omega
 have hTn:TL≠[]:=by intro e;rw[e]at hTl;simp at hTl;omega
 have a3:=c763 h763 h784 false true [⟨q.nl,q.es.take (bH z),(q.nl||q.cl)&&((bH z:Nat):Int)==(q.es.length:Int),by rw[List.length_take];simp only[big];omega⟩,⟨n1,(q.es.drop (bH z)).filter λy=>cN (nms 0 z) y.v.bs,c1,l1⟩,⟨n2,(q.es.drop (bH z)).filter λy => !cN (nms 0 z) y.v.bs,c2,l2⟩] (by simp[big]) (by rw[hcat];exact hTb) (by rw[hcat];exact hTn);rw[hcat]at a3;have fa:=o1.cell.1;have fb:=o2.cell.1;simp only[AQ,AR,bA,k1,k13,↓hhi,fa,fb,go_sem,seval];refine HJ (kb:=0) (s:=45) a3 (keys:=(y1++(y2++[]))++[]) (iT (yT (d:=62) (d6 (htl _ _ _) (iT hs1 (iT hs2 (r:=[]) (l:=[]) (s':=[]) rfl)))) (r:=[]) (l:=[]) (s':=[]) rfl) (by intro e;rw[List.map_eq_nil_iff]at e;exact hTn e) (El.loops _) ?_;intro cs3 fz hcs3 hfz;have hk0:∀j:Nat,j≠37->j≠41->∀x∈fz,x.k≠j:=by intro j h1 h2 x hx e;have:=hfz x hx;simp only[List.append_nil,i8]at this;rcases this with g|g;have:=hy1 _ g;omega;have:=hy2 _ g;omega
 generalize hH2:Eff.app h2 (Eff.pat _ (fz++_))=H2;have p1:H2.get 1=h2.get 1:=by rw[<-hH2,rF (hk0 1 (by omega) (by omega)),if_neg (by omega)]
 have p9:H2.get 9=h2.get 9:=by rw[<-hH2,rF (hk0 9 (by omega) (by omega)),if_neg (by omega)]
 have p45:H2.get 45=some (h2.next (0+45),.blk cs3 5 true false false):=by rw[<-hH2,rF (hk0 45 (by omega) (by omega)),if_pos rfl]
 clear hH2;rw[k1]at p1;rw[k9]at p9;have ho45:Own H2 45 5 true (.rf 45 (h2.next (0+45)) 0 TL.length TL.length) (TL.map Loop.av):=.inr ⟨_,cs3,by rw[aZ],p45,hcs3⟩;simp only[Nat.zero_add,aZ]at ho45 ⊢;generalize hv9:AV.rf 45 (h2.next 45) 0 TL.length TL.length=v9 at ho45 ⊢;obtain⟨c91,c92,c93⟩:=ho45.cell;simp only[p1,c91,c92,c93,go_sem,seval];generalize hH4:Hp.put H2 1 0 _=H4;have r1:H4.get 1=some (0,.blk [v9,.int .i64 n.value,.sl n.at_.nl (n.at_.es.map Lin.av) n.at_.cl,.bool n.dyn,.str n.index.op.bs,.int .i64 n.index.num,.int .i64 n.index.value,.str n.index.name.bs,.sl n.index.at_.nl (n.index.at_.es.map Lin.av) n.index.at_.cl,.bool n.index.dyn,.int .i64 n.index.check,.sl n.index.fn.nl (n.index.fn.es.map aJ.av) n.index.fn.cl,.sl n.index.knl (n.index.kids.map aE.av) n.index.kcl,.int .i64 n.check,.str n.body.op.bs,.int .i64 n.body.num,.int .i64 n.body.value,.str n.body.name.bs,.sl n.body.at_.nl (n.body.at_.es.map Lin.av) n.body.at_.cl,.bool n.body.dyn,.int .i64 n.body.check,.sl n.body.fn.nl (n.body.fn.es.map aJ.av) n.body.fn.cl,.sl n.body.knl (n.body.kids.map aE.av) n.body.kcl] 23 true true false):=by rw[<-hH4];simp only[go_sem,seval]
 have r9:=p9;have ho4:Own H4 45 5 true v9 (TL.map Loop.av):=ho45.mono (by rw[<-hH4,aI,if_neg (by omega)]);have r9:H4.get 9=_:=(by rw[<-hH4,aI,if_neg (by omega)]:H4.get 9=H2.get 9).trans p9;clear hH4;obtain⟨nl8,cl8,keys,hsn,_⟩:=ho4.snap (El.loops _) 62;have a1:=h758 nl8 cl8 TL hTb hTg;refine cL a1 (keys:=keys++[]) (by simp only[depth,mapS,hsn]) (v:=.bool (d9 TL)) (pa:=[]) rfl ?_;cases b1:d9 TL;simp only[r9,go_sem,seval];unfold iD;rw[if_neg (by omega),if_neg (by omega)];exact⟨ps,hps,by rw[<-hTL,if_neg (by rw[b1];decide)];rfl⟩;simp only[r1,r9,c91,c92,c93,go_sem,seval];generalize hH:Hp.put H4 9 0 _=H5;have ho5:Own H5 45 5 true v9 (TL.map Loop.av):=ho4.mono (by rw[<-hH,aI,if_neg (by omega)]);obtain⟨nl9,cl9,keys9,hsn9,_⟩:=ho5.snap (El.loops _) 60;refine⟨_,nI hsn9 (by simp[go_sem]) rfl,?_⟩;unfold iD;rw[if_neg (by omega),if_neg (by omega)];exact⟨ps,hps,by rw[<-hTL,if_pos b1];exact⟨⟨nl9,TL,cl9,hTb⟩,rfl,rfl⟩⟩;rintro d y r env h2 he2 ⟨v1,v2,rfl,o1,o2,k1,k9,k13,k21,kv⟩;obtain⟨hget,f1,f2,fw⟩:=cM he2 hdl;simp only[AQ,AR,f1,f2,hget,k21,go_sem,seval];generalize hH:Hp.put _ 29 _ (Ob.blk [AV.str y.v.bs,_,_,_,_] _ _ _ _)=H3;have kq:∀j,j≠29->H3.get j=h2.get j:=λj hj=>by rw[<-hH,aI,if_neg (Ne.symm hj),aI,if_neg (Ne.symm hj)]
 have k29:H3.get 29=some (h2.next 29,.blk [AV.str y.v.bs,AV.int .i64 y.lo.c,.sl y.lo.ts.nl (y.lo.ts.es.map aN.av) y.lo.ts.cl,.sl y.hi.nl (y.hi.es.map Lin.av) y.hi.cl,.int .i64 y.step] 5 true true false):=by rw[<-hH];simp only[go_sem,seval]
 clear hH;obtain⟨nl8,cl8,keys,hsn,_⟩:=(kv.mono (kq 1703949 (by omega))).snap (El.strs _) 62;have a1:=c98 h98 h138 nl8 cl8 (nms 0 z) (by rw[zM];simp only[big];omega) y.v.bs;have hyl:d.length+1<=24:=by
  have:(q.es.drop (bH z)).length=d.length+(r.length+1):=by rw[he2];simp
  rw[List.length_drop]at this;omega
 refine cL a1 (keys:=keys++[]) (iT hsn (d6 (x:=.str y.v.bs) (r:=[]) (l:=[]) (s':=[]) rfl rfl)) (v:=.bool (cN (nms 0 z) y.v.bs)) (pa:=[]) rfl ?_;have j1:=(kq 1 (by omega)).trans k1;have j9:=(kq 9 (by omega)).trans k9;have j13:=(kq 13 (by omega)).trans k13;have j21:=(kq 21 (by omega)).trans k21;have jv:=kv.mono (kq 1703949 (by omega));have p1:=o1.mono (kq 37 (by omega));have p2:=o2.mono (kq 41 (by omega));have hfl1:∀p:Loop->Bool,(d.filter p).length<=24:=λp=>by have:=List.length_filter_le p d;omega
 cases b1:cN (nms 0 z) y.v.bs;simp only[k29,go_sem,seval];refine nA (kb:=0) (s:=41) p2 (El.loops _) (xs:=[y.av]) (El.loops [y]) (by rw[aZ];have:=hfl1 λy => !cN (nms 0 z) y.v.bs;simp only[List.length_singleton];omega) (by decide) ?_;intro v' rd pa ho' hk _;simp only[fw,go_sem,seval];refine⟨v1,v',rfl,?_,?_,(hk 1 (by omega)).trans j1,(hk 9 (by omega)).trans j9,(hk 13 (by omega)).trans j13,(hk 21 (by omega)).trans j21,jv.mono (hk _ (by omega))⟩;rw[List.filter_append,show [y].filter (λy=>cN (nms 0 z) y.v.bs)=[] by simp[b1],List.append_nil];exact p1.mono (hk _ (by omega));rw[List.filter_append,show [y].filter (λy => !cN (nms 0 z) y.v.bs)=[y] by simp[b1],List.map_append];exact ho';simp only[k29,go_sem,seval];refine nA (kb:=0) (s:=37) p1 (El.loops _) (xs:=[y.av]) (El.loops [y]) (by rw[aZ];have:=hfl1 λy=>cN (nms 0 z) y.v.bs;simp only[List.length_singleton];omega) (by decide) ?_;intro v' rd pa ho' hk _;simp only[fw,go_sem,seval];refine⟨v',v2,rfl,?_,?_,(hk 1 (by omega)).trans j1,(hk 9 (by omega)).trans j9,(hk 13 (by omega)).trans j13,(hk 21 (by omega)).trans j21,jv.mono (hk _ (by omega))⟩;rw[List.filter_append,show [y].filter (λy=>cN (nms 0 z) y.v.bs)=[y] by simp[b1],List.map_append];exact ho';rw[List.filter_append,show [y].filter (λy => !cN (nms 0 z) y.v.bs)=[] by simp[b1],List.append_nil];exact p2.mono (hk _ (by omega));rintro d s r env hp hes ⟨rfl,ps,q,v,hps,hq,hqg,hfe,g1,g17,g5,g13,g21,hv,g9⟩;obtain⟨hget,f1,f2,fw⟩:=cM hes hzb;have hgi:(z.map bL)[d.length]?=some (.int .i64 s):=by rw[List.getElem?_map,hget];rfl
 have hdz:d.length<z.length:=by rw[hes];simp
 have hdl:d.length<n.loops.es.length:=by omega
 obtain⟨x,hx⟩:∃x,n.loops.es[d.length]?=some x:=⟨_,cK hdl⟩
 have htk:n.loops.es.take (d++[s]).length=n.loops.es.take d.length++[x]:=by rw[cA,List.length_singleton,List.take_succ,hx];rfl
 have hdr:n.loops.es.drop (d++[s]).length=n.loops.es.drop (d.length+1):=by rw[cA,List.length_singleton]
 have htl:(n.loops.es.take d.length).length=d.length:=by simp;omega
 cases b1:decide (s=0)
 case true=>have hs0:s=0:=aR b1;subst hs0;simp only[pR,pS,f1,f2,hgi,fw,go_sem,seval];refine⟨rfl,ps++[(none,x)],q,v,?_,?_,hqg,?_,g1,?_,g5,?_,g21,?_,g9⟩;rw[htk];exact hps.snoc_keep x;rw[hdr,hq];exact MV hx;rw[hfe,fe,if_pos rfl,fW,if_pos rfl,cA,List.length_singleton];rfl;rw[g17,fW,if_pos rfl,Nat.add_zero];rw[g13,FJ];rw[tP,if_pos rfl,List.append_nil];exact hv
 have hs0:s≠0:=bQ b1;have hd10:d.length<10:=hz10 d.length s hget hs0;have hcu:bX d<=big:=by have:=sM d;simp only[big];omega
 have a1:=h766 hp {n with loops:=q} hqg (bX d) d.length hd10 hcu z nl cl s (oQ d) hget v (nms 0 d) (by rw[zM];exact hcu) g1 g17 g5 g13 g21 hv;have hE:bD q.es ((d.length:Int)+(bX d:Nat)) s (tnB d.length) q.es.length=bD n.loops.es d.length s (tnB d.length) ((n.loops.es.length:Int)+(bX d:Nat)):=by rw[hq];exact EP hps hdl hd10 s
 simp only[pR,pS,f1,f2,hgi,b1,go_sem,seval];refine J0 (.inl rfl) rfl a1 ?_;intro r0 h' hs;unfold jR at hs;simp only[hE]at hs;by_cases he:bD n.loops.es d.length s (tnB d.length) ((n.loops.es.length:Int)+(bX d:Nat))=0;rw[if_pos he]at hs;obtain⟨x',o,i,q',hx',ht,hq',rfl,k1,k17,k13,⟨v',k21,kv⟩,k5,k9⟩:=hs;have hcl:=hps.curlen;rw[htl]at hcl;have hxx:x'=x:=by rw[hq,sX (by omega),hcl,Nat.sub_self,List.getElem?_drop]at hx';have:n.loops.es[d.length]?=some x':=hx';rw[hx]at this;exact(Option.some.inj this).symm
 subst hxx;obtain⟨_,hx4,_,_,_,h4,_⟩:=mM he;have hx4':n.loops.es[d.length]?=_:=hx4;rw[hx]at hx4';cases hx4';obtain⟨go,gi⟩:=ht.good (hw x' (List.mem_of_getElem? hx)) h4;simp only[fw,go_sem,seval];refine⟨rfl,ps++[(some o,i)],q',v',?_,?_,?_,?_,k1,?_,?_,?_,k21,?_,?_⟩;rw[htk];exact hps.snoc_cut hs0 (by rw[htl,Nat.zero_add];exact ht);rw[hdr,hq',hq,<-hcl];exact LS hx;intro y hy;rw[hq',kV]at hy;simp only[i8,List.mem_cons,List.not_mem_nil,or_false]at hy;rcases hy with (hy|rfl|rfl)|hy;exact hqg y (List.mem_of_mem_take hy);exact go;exact gi;exact hqg y (List.mem_of_mem_drop hy);rw[hfe,fe,if_neg hs0,if_pos he,fW,if_neg hs0,cA,List.length_singleton];rw[k17,fW,if_neg hs0];rfl;rw[k5,g5];rw[k13,JB _ hs0];rw[tP,if_neg hs0,Nat.zero_add];exact kv;rw[k9,g9];rw[if_neg he]at hs;obtain⟨rfl,k9⟩:=hs;have hd0:=decide_eq_false he;rw[g9]at k9;rw[fE]at k9;simp only[hd0,k9,go_sem,seval];unfold iD;have hfz:fe n.loops.es 0 0 z=bD n.loops.es d.length s (tnB d.length) ((n.loops.es.length:Int)+(bX d:Nat)):=by rw[hfe,fe,if_neg hs0,if_neg he]
 rw[if_neg (by omega),hfz,if_pos he];rfl
end
end
section
section
variable{pg:Pg}
theorem c794(hf:pg.fs 794=some vG)(l:Lin)(s:List UInt8):Ret pg 794 [l.av,.str s] (.int .i64 (nZ l.ts.es s)):=by have hb:=l.ts.ok;refine Ret.ofX hf ?_;unfold vG;rw[Lin.avc];refine Wk ?_;refine aY l.ts.es (λd r env hp=>env=AD (.str s) (.pt 1 0 0) (.int .i64 d.length)/\hp.get 1=some (0,.blk [.int .i64 l.c,.sl l.ts.nl (l.ts.es.map aN.av) l.ts.cl] 2 true true false)/\nZ l.ts.es s=nZ r s) ?_ ?_ ?_;exact⟨rfl,rfl,rfl⟩;rintro env hp ⟨rfl,hg,hI⟩;rw[hI];simp only[AC,AD,bA,hg,go_sem,seval];rfl;rintro d x r env hp hes ⟨rfl,hg,hI⟩;obtain⟨hget,e1,e2,ew⟩:=cM hes hb;simp only[AC,AD,e1,e2,hget,hg,go_sem,seval];have hc:nZ (x::r) s=if x.v.bs=s then x.c else nZ r s:=rfl;cases b1:decide (x.v.bs=s);simp only[ew,go_sem,seval];exact⟨rfl,hg,by rw[hI,hc,if_neg (bQ b1)]⟩;simp only[e1,e2,hget,hg,go_sem,seval];rw[hI,hc,if_pos (aR b1)]
theorem c782(hf:pg.fs 782=some x5)(h794:pg.fs 794=some vG)(l:Lin)(s:List UInt8):Ret pg 782 [l.av,.str s] (.bool (mL l s)):=by have a1:=c794 h794 l s;refine Ret.ofX hf ?_;unfold x5;rw[Lin.avc]at a1 ⊢;refine Wk ?_;refine aG (a1) (Wk ?_);rfl
set_option maxHeartbeats 2000000 in
theorem c760(hf:pg.fs 760=some DH)(h782:pg.fs 782=some x5)(h794:pg.fs 794=some vG)(nl cl:Bool)(ls:List Loop)(hb:ls.length<=big):Ret pg 760 [.sl nl (ls.map Loop.av) cl] (.bool (tM ls)):=by
 refine Ret.ofX hf ?_;unfold DH;refine Wk ?_;refine aY ls (λd r env hp=>env=AL (.sl nl (ls.map Loop.av) cl) (.int .i64 d.length)/\tM ls=tM r) ?_ ?_ ?_;exact⟨rfl,rfl⟩;rintro env hp ⟨rfl,hI⟩;rw[hI];simp only[AI,AL,bA,go_sem,seval];rfl;rintro d x r env hp hes ⟨rfl,hI⟩;obtain⟨hget,e1,e2,ew⟩:=cM hes hb;have hc:tM (x::r)=(!((x::r).any λy=>kZ x y.v.bs)&&tM r):=rfl;simp only[AI,AL,e1,e2,go_sem,seval];refine aY (x::r) (λd2 r2 env h2=>env=AM (.sl nl (ls.map Loop.av) cl) (.int .i64 d.length) (.int .i64 (d++d2).length)/\((x::r).any λy=>kZ x y.v.bs)=r2.any λy=>kZ x y.v.bs) ?_ ?_ ?_;exact⟨by rw[List.append_nil];rfl,rfl⟩;rintro env h2 ⟨rfl,hJ⟩;rw[<-hes];simp only[AJ,AM,bA,ew,go_sem,seval];exact⟨rfl,by rw[hI,hc,hJ];rfl⟩;rintro d2 y r2 env h2 he2 ⟨rfl,hJ⟩;obtain⟨hget2,f1,f2,fw⟩:=cM (show ls=(d++d2)++y::r2 by rw[hes,he2,List.append_assoc]) hb;have hcy:((y::r2).any λy=>kZ x y.v.bs)=(kZ x y.v.bs||r2.any λy=>kZ x y.v.bs):=rfl;have a1:=c782 h782 h794 x.lo y.v.bs;rw[Lin.avc]at a1;have hbad:kZ x y.v.bs=true->tM ls=false:=by intro h;rw[hI,hc,hJ,hcy,h];rfl
 simp only[AJ,AM,e1,e2,f1,f2,hget,hget2,go_sem,seval];refine aG a1 ?_;cases b1:mL x.lo y.v.bs
 case true=>refine Wk ?_;refine cC ?_;rw[hbad (by rw[kZ,b1];rfl)]
 refine Wk ?_;refine cC ?_;have hib:=x.hi.ok;refine aY x.hi.es (λd3 r3 env h3=>env=AN (.sl nl (ls.map Loop.av) cl) (.int .i64 d.length) (.int .i64 (d++d2).length) (.int .i64 d3.length)/\(x.hi.es.any λh=>mL h y.v.bs)=r3.any λh=>mL h y.v.bs) ?_ ?_ ?_;exact⟨rfl,rfl⟩;rintro env h3 ⟨rfl,hL⟩;simp only[AK,AN,bA,e1,e2,hget,fw,go_sem,seval];refine⟨by rw[List.append_assoc];rfl,?_⟩;rw[hJ,hcy,kZ,b1,hL];rfl;rintro d3 z r3 env h3 he3 ⟨rfl,hL⟩;obtain⟨hget3,g1,g2,gw⟩:=cM he3 hib;have hcz:((z::r3).any λh=>mL h y.v.bs)=(mL z y.v.bs||r3.any λh=>mL h y.v.bs):=rfl;have a2:=c782 h782 h794 z y.v.bs;rw[Lin.avc]at a2;simp only[AK,AN,e1,e2,f1,f2,g1,g2,hget,hget2,hget3,go_sem,seval];refine aG a2 ?_;cases b2:mL z y.v.bs;refine Wk ?_;refine cC ?_;simp only[gw,go_sem,seval];exact⟨rfl,by rw[hL,hcz,b2,Bool.false_or]⟩;refine Wk ?_;refine cC ?_;rw[hbad (by rw[kZ,hL,hcz,b2];simp)]
end
end
end Go.Tev
