import Derived.Test.YtmcadllokkmeiaaGreatDoorCBJ
import Derived.Test.YtmcadllokkmeiaaGreatDoorCBI
import Derived.Test.YtmcadllokkmeiaaGreatDoorCBH
import Derived.Test.YtmcadllokkmeiaaGreatDoorCBD
set_option linter.all false
namespace Go.Tev
section
theorem A8{k:aA}{ds:List Val}{p:cB}{F:List Sp->Int}{r:AV}(h:lK k ds p F r):r.notOs=true:=by unfold lK at h;split at h;obtain⟨nl,cl,rfl⟩:=h;rfl;subst h;rfl
section
variable{pg:Pg}
theorem c666(hf:pg.fs 666=some NT)(k:aA)(nl cl:Bool)(ds:List Val)(p:cB)(h680:bE pg 680 [k.av,p.av,.sl nl (ds.map Val.av) cl,.fn 681 []] (lK k ds p zB)) :
  bE pg 666 [k.av,p.av,.sl nl (ds.map Val.av) cl] (lK k ds p zB):=by
 obtain⟨r8,a8,s8⟩:=h680;have hno:=A8 s8;have tlP:=gI p.P;have tli:=bJ (f:=aJ) (λ_=>rfl) (MF k p.P zB);rw[aA.avc,cB.avc]at a8;rw[aA.avc,cB.avc];refine bE.ofX hf ?_;unfold NT;have s8':=s8;unfold lK at s8';split at s8';obtain⟨nl',cl',rfl⟩:=s8';refine Wk ?_;refine bT a8 (by simp only[tlP,go_sem,seval]) hno ?_;simp only[tli,go_sem,seval];exact s8;subst s8';refine Wk ?_;refine bT a8 (by simp only[tlP,go_sem,seval]) hno (Wk ?_);exact s8
theorem c670(hf:pg.fs 670=some HB)(n1 c1 n2 c2:Bool)(a b:List Int)(ha:a.length<=big)(hb:b.length<=big):Ret pg 670 [.sl n1 (a.map aJ) c1,.sl n2 (b.map aJ) c2] (.bool (decide (a=b))):=by
 refine Ret.ofX hf ?_;unfold HB;by_cases hl:a.length=b.length
 case neg=>
  have e0:decide ((a.length:Int)=(b.length:Int))=false:=by simp;omega
  have e1:decide (a=b)=false:=by have:¬a=b:=λh=>hl (by rw[h]);simp[this]
  rw[e1];simp only[e0,aI,go_sem,seval]
 have e0:decide ((a.length:Int)=(b.length:Int))=true:=by simp;omega
 simp only[e0,aI,go_sem,seval];refine aK a (λd r env hp=>env=CH (.sl n1 (a.map aJ) c1) (.sl n2 (b.map aJ) c2) (.int .i64 d.length)/\decide (a=b)=decide (r=b.drop d.length)) ?_ ?_ ?_;exact⟨rfl,by simp⟩;rintro env hp ⟨rfl,hI⟩;have:b.drop a.length=[]:=List.drop_eq_nil_of_le (by omega);rw[hI,this];simp only[CG,CH,bA,aI,go_sem,seval];rintro d x r env hp hes ⟨rfl,hI⟩;obtain⟨hget,f1,f2,ew⟩:=cX hes ha;have hlt:d.length<b.length:=by have:=congrArg List.length hes;simp at this;omega
 obtain⟨y,hy⟩:∃y,b[d.length]?=some y:=⟨_,aX hlt⟩
 have hd:b.drop d.length=y::b.drop (d.length+1):=by have h1:=kY hlt;have h2:=aX hlt;rw[hy]at h2;rw[h1,Option.some.inj h2]
 have l1:((d.length:Int)<(b.length:Int))=True:=eq_true (by omega);have hl2:(d++[x]).length=d.length+1:=by simp
 rw[hd]at hI;cases e2:decide (x=y);have:decide (x::r=y::b.drop (d.length+1))=false:=by have:=bH e2;simp[this]
 rw[this]at hI;rw[hI];simp only[CG,CH,f1,f2,hget,l1,hy,e2,aI,go_sem,seval];exact(show _=true by kernel_rfl);have:decide (x::r=y::b.drop (d.length+1))=decide (r=b.drop (d.length+1)):=by have:=aM e2;simp[this]
 rw[this]at hI;simp only[CG,CH,f1,f2,hget,l1,hy,e2,ew,aI,go_sem,seval];exact⟨by kernel_rfl,rfl,by rw[hl2];exact hI⟩
end
end
section
section
variable{pg:Pg}
theorem c668(hf:pg.fs 668=some NS)(k:aA)(nl cl:Bool)(ds:List Val)(p:cB)(h680:bE pg 680 [k.av,p.av,.sl nl (ds.map Val.av) cl,.fn 682 [.fp p.av]] (lK k ds p (λes=>jD es p.pk.toNat))) :
  bE pg 668 [k.av,p.av,.sl nl (ds.map Val.av) cl] (lK k ds p (λes=>jD es p.pk.toNat)):=by
 obtain⟨r8,a8,s8⟩:=h680;have hno:=A8 s8;have tlP:=gI p.P;have tli:=bJ (f:=aJ) (λ_=>rfl) (MF k p.P (λes=>jD es p.pk.toNat));rw[aA.avc,cB.avc]at a8;rw[aA.avc,cB.avc];refine bE.ofX hf ?_;unfold NS;have s8':=s8;unfold lK at s8';split at s8';obtain⟨nl',cl',rfl⟩:=s8';refine Wk ?_;refine cK a8 (keys:=[5]) (pa:=[]) (by simp only[depth,cF,bD,eK,Hp.get_cons,tlP,go_sem,seval]) (by rfl) ?_;simp only[tli,go_sem,seval];exact s8;subst s8';refine Wk ?_;refine cK a8 (keys:=[5]) (pa:=[]) (by simp only[depth,cF,bD,eK,Hp.get_cons,tlP,go_sem,seval]) (by rfl) (Wk ?_);exact s8
end
end
section
section
variable{pg:Pg}
set_option maxRecDepth 100000 in
set_option maxHeartbeats 4000000 in
theorem c679(hf:pg.fs 679=some G9)(k:aA)(p:cB)(h265:∀at_ v:Int,Ret pg 265 [k.av,.int .i64 at_,.int .i64 v] (.bool (pB k at_ v)))(t at_:Int)(hwt:wr .i64 (t-1)=at_)(v w:Nat)(hv:v<p.P.length)(hw:w<p.P.length) :
  Ret pg 679 [k.av,p.av,.int .i64 t,.int .i64 v,.int .i64 w] (.bool (kD k p.P at_ v w||kD k p.P at_ w v)):=by
 have a1:=h265 at_ w;have a2:=h265 at_ v;have lv:((v:Int)<(p.P.length:Int))=True:=eq_true (by omega);have lw:((w:Int)<(p.P.length:Int))=True:=eq_true (by omega);have hv0:(0<=(v:Int))=True:=eq_true (by omega);have hw0:(0<=(w:Int))=True:=eq_true (by omega);have hv':=o7 hv;have hw':=o7 hw;rw[aA.avc]at a1 a2;rw[aA.avc,cB.avc];refine Ret.ofX hf ?_;unfold G9;cases b1:decide (at_<0)
 case true=>
  have hn:decide (0<=at_)=false:=by have:=aM b1;simp;omega
  simp only[hwt,b1,go_sem,seval];refine⟨by kernel_rfl,?_⟩;simp[kD,hn]
 have h0:0<=at_:=by have:=bH b1;omega
 obtain⟨j,rfl⟩:=fM h0;cases b2:decide ((k.list.es.length:Int)<=(j:Int))
 case true=>
  have hn:decide ((j:Int)<(k.list.es.length:Int))=false:=by have:=aM b2;simp;omega
  simp only[hwt,b1,b2,aI,go_sem,seval];refine⟨by kernel_rfl,?_⟩;simp only[kD,hn,Bool.not_true,Bool.and_false,Bool.false_and,Bool.or_self]
 have hjl:j<k.list.es.length:=by have:=bH b2;omega
 have hb2:decide ((j:Int)<(k.list.es.length:Int))=true:=by simp;omega
 have hb1:decide (0<=(j:Int))=true:=by simp
 have hcomm:decide ((plc p.P w).1=(plc p.P v).1)=decide ((plc p.P v).1=(plc p.P w).1):=by by_cases h:(plc p.P v).1=(plc p.P w).1;simp[h];have h':¬(plc p.P w).1=(plc p.P v).1:=λe=>h e.symm;simp[h,h']
 cases b4:decide ((plc p.P v).1=(plc p.P w).1);rw[b4]at hcomm;simp only[hwt,b1,b2,b4,aI,lv,lw,hv0,hw0,hv',hw',go_sem,seval];refine⟨by kernel_rfl,?_⟩;simp only[kD,b4,hcomm,Bool.not_true,Bool.and_false,Bool.false_and,Bool.or_self];rw[b4]at hcomm;have l6:((j:Int)<(k.list.es.length:Int))=True:=eq_true (by omega);have hj0:(0<=(j:Int))=True:=eq_true (by omega);have hq:k.list.es[j]?=some k.list.es[j]:=aX hjl;generalize k.list.es[j]=q at hq;have hval:∀u:Nat,w8 k (j:Int) u=decide ((u:Int)=q.value):=λu=>by simp[w8,hq]
 have hsp:(kD k p.P (j:Int) v w||kD k p.P (j:Int) w v)=(decide ((v:Int)=q.value)&&pB k j w||decide ((w:Int)=q.value)&&pB k j v):=by simp only[kD,b4,hcomm,hb1,hb2,hval,Bool.not_true,Bool.false_or,Bool.true_and,Bool.and_true]
 have hs1:∀u:Nat,decide (q.value=(u:Int))=decide ((u:Int)=q.value):=λu=>by by_cases h:(u:Int)=q.value;simp[h];have h':¬q.value=(u:Int):=λe=>h e.symm;simp[h,h']
 rw[hsp];have s1:=hs1 v;have s2:=hs1 w;simp only[hwt,b1,b2,b4,aI,lv,lw,hv0,hw0,hv',hw',go_sem,seval];refine⟨by kernel_rfl,?_⟩;simp only[l6,hj0,hq,aH.avc,aI,go_sem,seval];cases b5:decide ((v:Int)=q.value)<;>cases b6:decide ((w:Int)=q.value)<;>rw[b5]at s1<;>rw[b6]at s2;simp only[s1,s2,go_sem,seval];simp only[s1,s2,go_sem,seval];refine aB a2 ?_;simp only[go_sem,seval];simp only[s1,s2,go_sem,seval];refine aB a1 ?_;cases pB k j w<;>simp only[s1,s2,go_sem,seval];simp only[s1,s2,go_sem,seval];refine aB a1 ?_;cases pB k j w;simp only[s1,s2,go_sem,seval];refine aB a2 ?_;simp only[go_sem,seval];simp only[s1,s2,go_sem,seval]
end
end
section
theorem ZZ{α : Type}(d2:List α)(u : α)(d3:List α)(y : α)(r3:List α):(d2++u::(d3++y::r3))[d2.length+1+d3.length]?=some y:=by
 have h:d2++u::(d3++y::r3)=(d2++u::d3)++y::r3:=by simp
 have hl:(d2++u::d3).length=d2.length+1+d3.length:=by simp;omega
 rw[h,<-hl];simp
theorem ZH{α : Type}(d2:List α)(u : α)(d3:List α)(y : α)(r3:List α):d2.length+1+d3.length<(d2++u::(d3++y::r3)).length:=by simp;omega
theorem MQ{α : Type}(d2:List α)(u : α)(r:List α):d2.length+1+r.length=(d2++u::r).length:=by simp;omega
theorem ZG(a:Nat){α : Type}(d3:List α)(y : α):a+1+(d3++[y]).length=a+1+d3.length+1:=by simp;omega
theorem aDd{A T Z:List Cl}{c:Cl}(h:A++(c::Z)=T)(hT:T.length<=200000000):(A.map Cl.av).length+1<=1073741824:=by have:=congrArg List.length h;simp at this;simp;omega
section
variable{pg:Pg}
set_option maxRecDepth 100000 in
set_option maxHeartbeats 8000000 in
theorem c665(hf:pg.fs 665=some HE)(f679:pg.fs 679=some G9)(f638:pg.fs 638=some HF)(k:aA)(nl cl:Bool)(ds:List Val)(p:cB)(h678:bE pg 678 [k.av,p.av,.sl nl (ds.map Val.av) cl] (l3 k ds p))
  (h265:∀at_ v:Int,Ret pg 265 [k.av,.int .i64 at_,.int .i64 v] (.bool (pB k at_ v))) :
  bE pg 665 [k.av,p.av,.sl nl (ds.map Val.av) cl] (qO k ds p (λv es=>∃nl cl,v = .sl nl es cl)):=by
 obtain⟨r8,a8,s8⟩:=h678;have tlP:=gI p.P;rw[aA.avc,cB.avc]at a8;rw[aA.avc,cB.avc];unfold qO;unfold l3 at s8;by_cases hx:dZ k ds p=0
 case neg=>
  have b0:decide (dZ k ds p=0)=false:=by simp[hx]
  rw[if_neg hx]at s8;subst s8;simp only[if_neg hx];refine bE.ofX hf ?_;unfold HE;refine Wk ?_;refine bT a8 (by simp only[tlP,go_sem,seval]) rfl ?_;simp only[b0,go_sem,seval]
 simp only[if_pos hx];rw[if_pos hx]at s8;obtain⟨n6,c6,vs,hls,rfl⟩:=s8;have htr:=qU (oS hls);have hcx:dU k ds=0:=by by_cases h:dU k ds=0;exact h;rw[dZ,if_neg h]at hx;exact absurd hx h
 have hfb:fF k ds p=true:=by rw[dZ,if_pos hcx]at hx;cases hb:fF k ds p;rw[hb]at hx;simp at hx;rfl
 have hgood:=oD hcx hfb;have ok:=dS (fR hcx).1;obtain⟨_,hsl,hzl⟩:=qG (ds:=ds) ok;simp only[fF,aG,aY,fB,fL]at hfb;obtain⟨⟨⟨⟨b1,b2⟩,b3⟩,b4⟩,b5⟩:=hfb;have hPV:p.P.length=k.values.es.length:=by omega
 have hc:=(fR hcx).1;have hsz:=zD hcx;have hso:=ok.out;simp only[bO,aG,aY]at hso;obtain⟨_,⟨⟨⟨⟨⟨⟨_,_⟩,_⟩,hi8⟩,_⟩,hV4⟩,hL4⟩,_⟩:=hso;have hPb:=p.bP;have hLb:=k.list.ok;have hll:∀at_,(cY at_ (aF k)).length<=big:=λat_=>by have:=(iV at_ _ (aF k) rfl).2;omega
 have hl408:∀at_,(cY at_ (aF k)).length<=408:=λat_=>by have:=(iV at_ _ (aF k) rfl).2;omega
 have hcap:∀j:Nat,j<=k.list.es.length+2->(AB k p.P (List.range j)).length<=200000000:=λj hj=>by have h1:=yC hl408 p.P (List.range j);rw[List.length_range]at h1;have h2:j*(408*408)<=500*(408*408):=Nat.mul_le_mul_right _ (by omega);omega
 have hws:∀q:Sp,0<=q.1/\0<=q.2/\q.1+q.2<=p.pk->wr .i64 (q.1+q.2)=q.1+q.2:=λq hq=>aO (by omega) (by omega);have hwi:∀j:Nat,j<=100000->wr .i64 ((j:Int)+1)=((j+1:Nat):Int):=λj hj=>by rw[aO (by omega) (by omega)];omega
 have hwd:∀j:Nat,j<k.list.es.length+2->wr .i64 ((j:Int)-1)=(j:Int)-1:=λj hj=>aO (by omega) (by omega);obtain⟨R,hR⟩:∃R,R=List.range (k.list.es.length+2):=⟨_,rfl⟩
 have hRl:R.length=k.list.es.length+2:=by rw[hR,List.length_range]
 have hvl:vs.length=R.length:=by rw[hRl];exact hls.1
 have hab0:∀j:Nat,j<k.list.es.length+2->j+1<=1073741824:=λj hj=>by simp only[big]at hLb;omega
 have hwr0:∀j:Nat,j<k.list.es.length+2->wr .i64 ((j:Int)+1)=((j+1:Nat):Int):=λj hj=>by rw[aO (by omega) (by simp only[big]at hLb;omega)];omega
 refine bE.ofX hf ?_;unfold HE;refine Wk ?_;refine bT a8 (by simp only[tlP,go_sem,seval]) rfl (Wk ?_)
 refine aK R (λd r env hp=>∃v,env=JV (.pt 1 0 0) (.pt 5 0 0) (.sl n6 vs c6) v (.int .i64 d.length)/\hp.get 1=some (0,.blk k.cells 6 true true false)/\hp.get 5=some (0,.blk p.cells 3 true true false) /\
  Own hp 21 4 true v ((AB k p.P (List.range d.length)).map Cl.av)) ?_ ?_ ?_
 exact⟨_,rfl,rfl,rfl,Own.nil _ _ _ _ _ _ rfl⟩;rintro env hp ⟨v,rfl,g1,g5,ho⟩;rw[hRl]at ho;obtain⟨nl',cl',hcv⟩:=vK ho (El.cls _) 0;simp only[JS,JV,hvl,bA,go_sem,seval];exact⟨_,hcv,_,rfl,nl',cl',rfl⟩;rintro d x r env hp hes ⟨v,rfl,g1,g5,ho⟩;rw[hR]at hes;obtain⟨rfl,hlt⟩:=gT hes;have hl:(d++[d.length]).length=d.length+1:=by simp
 obtain⟨n3,c3,hv⟩:=hls.2 d.length hlt;have hgd:=hgood ((d.length:Int)-1);have hlb:=hll ((d.length:Int)-1);have hlc:=hl408 ((d.length:Int)-1);have hTl:=hcap (d.length+1) hlt;have hat:=hwd d.length hlt;have hw:=hwi d.length (by omega)
 have hlv:∀w∈cY ((d.length:Int)-1) (aF k),0<=w/\w.toNat<p.P.length:=λw hw=>by obtain⟨u,u1,u2,u3⟩:=lO.1 hw;have:=(cD.1 u2).1;exact⟨u1,by omega⟩
 rw[hl];obtain⟨T,hT⟩:∃T,T=AB k p.P (List.range (d.length+1)):=⟨_,rfl⟩
 rw[<-hT]at hTl ⊢;rw[AA]at hT;simp only[gV]at hgd;generalize cY ((d.length:Int)-1) (aF k)=lv at *;have e1:decide ((d.length:Int)<(vs.length:Int))=true:=decide_eq_true (by rw[hvl,hRl];exact Int.ofNat_lt.2 hlt);have e1':((d.length:Int)<(vs.length:Int))=True:=eq_true (aM e1);have hj0:(0<=(d.length:Int))=True:=eq_true (Int.natCast_nonneg _);clear hes;simp only[JS,JV,e1,go_sem,seval]
 refine aK lv (λd2 r2 env hp2=>∃v,∃A:List Cl,env=JW (.pt 1 0 0) (.pt 5 0 0) (.sl n6 vs c6) v (.int .i64 d.length) (.int .i64 d2.length)/\hp2.get 1=some (0,.blk k.cells 6 true true false)/\hp2.get 5=some (0,.blk p.cells 3 true true false)/\Own hp2 21 4 true v (A.map Cl.av) /\
  A++vN k p.P ((d.length:Int)-1) r2=T) ?_ ?_ ?_
 exact⟨v,_,rfl,g1,g5,ho,hT.symm⟩;rintro env hp2 ⟨v2,A,rfl,g1,g5,ho,hI⟩;rw[vN,List.append_nil]at hI;subst hI;simp only[JT,JW,e1',hj0,hv,bA,hw,aI,go_sem,seval];exact⟨v2,rfl,g1,g5,ho⟩;rintro d2 x r2 env hp2 hes ⟨v2,A,rfl,g1,g5,ho,hI⟩;obtain⟨hget,f1,f2,ew⟩:=cX hes hlb;have hdl:d2.length+1+r2.length=lv.length:=by rw[hes];exact MQ _ _ _
 have hw2:=hwi d2.length (Nat.le_trans (by rw[hes,<-MQ,Nat.add_assoc];exact Nat.le_add_right _ _) (Nat.le_trans hlc (by decide)));rw[vN]at hI;obtain⟨hx0,hxP⟩:=hlv x (by rw[hes];simp);obtain⟨u,rfl⟩:=fM hx0;rw[Int.toNat_natCast]at hxP;simp only[JT,JW,e1',hj0,hv,f1,f2,hw2,aI,go_sem,seval]
 refine aK r2 (λd3 r3 env hp3=>∃v,∃A:List Cl,env=JX (.pt 1 0 0) (.pt 5 0 0) (.sl n6 vs c6) v (.int .i64 d.length) (.int .i64 d2.length) (.int .i64 ((d2.length+1+d3.length:Nat):Int))/\hp3.get 1=some (0,.blk k.cells 6 true true false)/\hp3.get 5=some (0,.blk p.cells 3 true true false)/\Own hp3 21 4 true v (A.map Cl.av) /\
  A++(r3.flatMap (qZ k p.P ((d.length:Int)-1) (u:Int))++vN k p.P ((d.length:Int)-1) r2)=T) ?_ ?_ ?_
 exact⟨v2,A,rfl,g1,g5,ho,hI⟩;rintro env hp3 ⟨v3,A3,rfl,g1,g5,ho,hI⟩;have e3:decide (((d2.length+1+r2.length:Nat):Int)<(lv.length:Int))=false:=decide_eq_false (by rw[hdl];exact Int.lt_irrefl _);simp only[JU,JX,e1',hj0,hv,e3,ew,aI,go_sem,seval];exact⟨v3,A3,rfl,g1,g5,ho,hI⟩;rintro d3 y r3 env hp3 hes3 ⟨v3,A3,rfl,g1,g5,ho,hI⟩;have hym:y∈lv:=by rw[hes,hes3];simp
 obtain⟨hy0,hyP⟩:=hlv y hym;obtain⟨z,rfl⟩:=fM hy0;rw[Int.toNat_natCast]at hyP;obtain⟨x1,x2,x3⟩:=hgd (plc p.P u) (by rw[hes];simp);obtain⟨y1,y2,y3⟩:=hgd (plc p.P z) (List.mem_map.2 ⟨(z:Int),hym,by simp⟩);have a38:=c638 f638 (plc p.P u) (plc p.P z) (hws _ ⟨x1,x2,x3⟩ |> λh=>by first|exact h|exact hws _ ⟨y1,y2,y3⟩) (by first|exact hws _ ⟨y1,y2,y3⟩|exact hws _ ⟨x1,x2,x3⟩);have a79:=c679 f679 k p h265 (d.length:Int) ((d.length:Int)-1) hat u z hxP hyP;rw[aA.avc,cB.avc]at a79;simp only[bQ]at a38;have hgy:(lv.map aJ)[d2.length+1+d3.length]?=some (aJ (z:Int)):=by rw[List.getElem?_map,hes,hes3,ZZ];rfl
 have hl3:d2.length+1+d3.length<lv.length:=by rw[hes,hes3];exact ZH _ _ _ _ _
 have k1:decide (((d2.length+1+d3.length:Nat):Int)<(lv.length:Int))=true:=decide_eq_true (Int.ofNat_lt.2 hl3);have k2:(((d2.length+1+d3.length:Nat):Int)<(lv.length:Int))=True:=eq_true (Int.ofNat_lt.2 hl3);have k3:(0<=((d2.length+1+d3.length:Nat):Int))=True:=eq_true (Int.natCast_nonneg _);have k4:wr .i64 (((d2.length+1+d3.length:Nat):Int)+1)=((d2.length+1+(d3++[(z:Int)]).length:Nat):Int):=by rw[ZG];exact hwi _ (Nat.le_trans (Nat.le_of_lt hl3) (Nat.le_trans hlc (by decide)))
 rw[List.flatMap_cons]at hI;have g1':=g1;have g5':=g5;simp only[aA.cells,Sl.av]at g1;simp only[cB.cells]at g5;have lu:((u:Int)<(p.P.length:Int))=True:=eq_true (Int.ofNat_lt.2 hxP);have hu0:(0<=(u:Int))=True:=eq_true (Int.natCast_nonneg _);have lz:((z:Int)<(p.P.length:Int))=True:=eq_true (Int.ofNat_lt.2 hyP);have hz0:(0<=(z:Int))=True:=eq_true (Int.natCast_nonneg _);have hu':=o7 hxP;have hz':=o7 hyP;simp only[JU,JX,e1',hj0,hv,f1,f2,hget,k1,k2,k3,hgy,aI,go_sem,seval];refine⟨by kernel_rfl,?_⟩;simp only[g5,lu,hu0,lz,hz0,hu',hz',aI,go_sem,seval];refine aB a38 ?_;cases hm:lX (plc p.P u) (plc p.P z);refine Wk ?_;refine⟨by kernel_rfl,?_⟩;simp only[k4,go_sem,seval];exact⟨v3,A3,rfl,g1',g5',ho,by simpa[qZ,mE,hm] using hI⟩;simp only[g1,g5,go_sem,seval];refine bT a79 (by simp only[tlP,go_sem,seval]) rfl ?_;cases htk:(kD k p.P ((d.length:Int)-1) u z||kD k p.P ((d.length:Int)-1) z u);rw[qZ,if_neg (by simp only[mE,hm,Int.toNat_natCast,Bool.not_true,Bool.false_or,htk];simp),List.cons_append,List.nil_append]at hI;rw[Int.toNat_natCast,Int.toNat_natCast]at hI;have hroom:=aDd hI hTl;refine Wk ?_;refine⟨by kernel_rfl,?_⟩;simp only[hat,g5,lu,hu0,lz,hz0,hu',hz',mx2,bQ,aI,go_sem,seval];refine eF (kb:=0) (s:=21) (bytes:=32) ho (El.cls _) (xs:=[Cl.av ⟨(d.length:Int)-1,u,z,mxI (plc p.P u).1 (plc p.P z).1⟩]) (by intro q hq;simp at hq;subst hq;exact⟨rfl,rfl,rfl⟩) hroom (by decide) ?_;intro v' rd pa p2 hk2 hpa;have q1:=(hk2 1 (by decide)).trans g1';have q5:=(hk2 5 (by decide)).trans g5';refine Wk ?_;refine⟨by kernel_rfl,?_⟩;generalize Eff.app hp3 (.pat rd pa)=H2 at p2 q1 q5 ⊢;simp only[k4,go_sem,seval];exact⟨v',A3++[⟨(d.length:Int)-1,u,z,mxI (plc p.P u).1 (plc p.P z).1⟩],rfl,q1,q5,by rw[List.map_append,List.map_singleton];exact p2,by rw[List.append_assoc];exact hI⟩;refine Wk ?_;refine⟨by kernel_rfl,?_⟩;simp only[k4,go_sem,seval];exact⟨v3,A3,rfl,g1',g5',ho,by
  rw[qZ,if_pos (by simp only[mE,hm,Int.toNat_natCast,Bool.not_true,Bool.false_or];exact htk)]at hI;exact hI⟩
end
end
section
def clC(k:aA)(ds:List Val)(p:cB):List Cl:=if dZ k ds p=0 then aHp k p.P else []
def nmC(k:aA)(ds:List Val)(p:cB)(F:List Sp->Int):List Int:=if dZ k ds p=0 then MF k p.P F else []
theorem G7{k:aA}{ds:List Val}{p:cB}{r:AV}(h:qO k ds p (λv es=>∃nl cl,v = .sl nl es cl) r):∃nl cl,r = .tup [.sl nl ((clC k ds p).map Cl.av) cl,.int .i64 (dZ k ds p)]:=by unfold qO at h;unfold clC;split at h;rename_i hx;obtain⟨v,rfl,nl,cl,rfl⟩:=h;exact⟨nl,cl,by rw[if_pos hx,hx]⟩;rename_i hx;exact⟨true,true,by rw[h,if_neg hx];rfl⟩
theorem xQ{k:aA}{ds:List Val}{p:cB}{F:List Sp->Int}{r:AV}(h:lK k ds p F r):∃nl cl,r = .tup [.sl nl ((nmC k ds p F).map aJ) cl,.int .i64 (dZ k ds p)]:=by unfold lK at h;unfold nmC;split at h;rename_i hx;obtain⟨nl,cl,rfl⟩:=h;exact⟨nl,cl,by rw[if_pos hx,hx]⟩;rename_i hx;exact⟨true,true,by rw[h,if_neg hx];rfl⟩
theorem Cl.treeL(l:List Cl):treeL (l.map Cl.av)=true:=qU (El.cls l)
section
variable{pg:Pg}
set_option maxRecDepth 100000 in
set_option maxHeartbeats 8000000 in
theorem c660(hf:pg.fs 660=some NV)(f670:pg.fs 670=some HB)(k:aA)(nl cl:Bool)(ds:List Val)(p:cB)(F G:List Sp->Int)(hF:(nmC k ds p F).length<=big)(hG:(nmC k ds p G).length<=big)
  (h662:Ret pg 662 [] (.bool true)) (sm:Bool) (hCb:sm=true->(clC k ds p).length<=big) (h663:Ret pg 663 [k.av,p.av,.sl nl (ds.map Val.av) cl] (.bool sm))
  (h664:bE pg 664 [k.av,p.av,.sl nl (ds.map Val.av) cl] (qO k ds p (λv es=>∃nl cl,v = .sl nl es cl))) (h665:bE pg 665 [k.av,p.av,.sl nl (ds.map Val.av) cl] (qO k ds p (λv es=>∃nl cl,v = .sl nl es cl)))
  (h666:bE pg 666 [k.av,p.av,.sl nl (ds.map Val.av) cl] (lK k ds p F)) (h667:bE pg 667 [k.av,p.av,.sl nl (ds.map Val.av) cl] (lK k ds p F))
  (h668:bE pg 668 [k.av,p.av,.sl nl (ds.map Val.av) cl] (lK k ds p G)) (h669:bE pg 669 [k.av,p.av,.sl nl (ds.map Val.av) cl] (lK k ds p G)) :
  Ret pg 660 [k.av,p.av,.sl nl (ds.map Val.av) cl] (.bool true):=by
 obtain⟨r4,a4,s4⟩:=h664;obtain⟨r5,a5,s5⟩:=h665;obtain⟨r6,a6,s6⟩:=h666;obtain⟨r7,a7,s7⟩:=h667;obtain⟨r8,a8,s8⟩:=h668;obtain⟨r9,a9,s9⟩:=h669;obtain⟨n4,c4,rfl⟩:=G7 s4;obtain⟨n5,c5,rfl⟩:=G7 s5;obtain⟨n6,c6,rfl⟩:=xQ s6;obtain⟨n7,c7,rfl⟩:=xQ s7;obtain⟨n8,c8,rfl⟩:=xQ s8;obtain⟨n9,c9,rfl⟩:=xQ s9;clear s4 s5 s6 s7 s8 s9;have b1:=c670 f670 n6 c6 n7 c7 _ _ hF hF;have b2:=c670 f670 n8 c8 n9 c9 _ _ hG hG;have tlP:=gI p.P;generalize clC k ds p=C at *;generalize nmC k ds p F=A at *;generalize nmC k ds p G=B at *;generalize dZ k ds p=e at *;have tC:=Cl.treeL C;have tA:=bJ (f:=aJ) (λ_=>rfl) A;have tB:=bJ (f:=aJ) (λ_=>rfl) B;simp only[decide_true]at b1 b2;rw[aA.avc,cB.avc]at h663 a4 a5 a6 a7 a8 a9;rw[aA.avc,cB.avc];refine Ret.ofX hf ?_;unfold NV;refine Wk ?_;refine aB h662 (Wk ?_);refine bT h663 (by simp only[tlP,go_sem,seval]) rfl ?_;cases sm;simp only[go_sem,seval];have hCb:=hCb rfl;refine Wk ?_;refine bT a4 (by simp only[tlP,go_sem,seval]) rfl (Wk ?_);refine bT a5 (by simp only[tlP,go_sem,seval]) rfl (Wk ?_);refine bT a6 (by simp only[tlP,go_sem,seval]) rfl (Wk ?_);refine bT a7 (by simp only[tlP,go_sem,seval]) rfl (Wk ?_);refine bT a8 (by simp only[tlP,go_sem,seval]) rfl (Wk ?_);refine bT a9 (by simp only[tlP,go_sem,seval]) rfl (Wk ?_);refine bT b1 (by simp only[tA,go_sem,seval]) rfl (Wk ?_);refine bT b2 (by simp only[tB,go_sem,seval]) rfl (Wk ?_);refine aK C (λd r env hp=>env=J1 (.sl n4 (C.map Cl.av) c4) (.sl n5 (C.map Cl.av) c5) (.int .i64 d.length)) ?_ ?_ ?_;rfl;rintro env hp rfl;simp only[J0,J1,bA,go_sem,seval];rintro d x r env hp hes rfl;obtain⟨hget,f1,f2,ew⟩:=cX hes hCb;simp only[J0,J1,f1,f2,hget,Cl.av,ew,aI,go_sem,seval];exact⟨by kernel_rfl,rfl⟩
end
end
section
structure CodeAc(pg:Pg):Prop where
 f11:pg.fs 11=some aBA
 f16:pg.fs 16=some aBy
 f32:pg.fs 32=some aBn
 f33:pg.fs 33=some aBm
 f52:pg.fs 52=some aBe
 f53:pg.fs 53=some R4
 f260:pg.fs 260=some N6
 f264:pg.fs 264=some N3
 f272:pg.fs 272=some HI
 f273:pg.fs 273=some N1
 f274:pg.fs 274=some HH
 f275:pg.fs 275=some N0
 f292:pg.fs 292=some HG
 f293:pg.fs 293=some U3
 f316:pg.fs 316=some NX
 f663:pg.fs 663=some NU
 f676:pg.fs 676=some EP
 f677:pg.fs 677=some NR
 f684:pg.fs 684=some NO
 f694:pg.fs 694=some yE
section
variable{pg:Pg}
theorem UN{k:aA}(hk:KOK k):∀q∈k.list.es,q.body.ok/\q.index.ok/\q.body.sz+q.index.sz+1<=big:=λq hq=>by obtain⟨h1,h2,_,_⟩:=hk.ks q hq;have:=hk.sz q hq;exact⟨h1,h2,by omega⟩
theorem aBU(C:Go.Tev.Code pg)(M:CodeAc pg)(A:Ora pg)(k:aA)(hk:KOK k)(nl cl:Bool)(ds:List Val)(hb:ds.length<=big) :
  bE pg 9 [k.av] (kE k)/\Ret pg 16 [k.av,.sl nl (ds.map Val.av) cl] (iW k ds)/\(∀at_:Int,bE pg 11 [k.av,.int .i64 at_] (kM k at_))/\(∀p:cB,Ret pg 676 [k.av,p.av,.sl nl (ds.map Val.av) cl] (.int .i64 (dZ k ds p))) /\
  (lH k->∀(nl cl:Bool)(at_ v:Nat),at_<k.list.es.length->v<k.values.es.length->Ret pg 275 [k.av,.sl nl ((aF k).map bQ) cl,.int .i64 at_,.int .i64 v] (.bool (pL k at_ v))):=by
 have B:=U8 A C.f57 C.f91 C.f126 C.f108 C.f94 C.f132 C.f133 C.f134 C.f171;have h51:∀l:Lin,Ret pg 51 [l.av] (.bool (fE l)):=c51 C.f51 C.f89 B.name;have h9:=aPJ C A k hk;have h28:=aFM C A k hk.nl hk.ks;have h32:=λl nl cl ds hb=>aOv M.f32 h51 M.f52 M.f53 l nl cl ds hb;have h33:=λt=>aOu M.f33 h32 t nl cl ds hb;have h16:=aOY M.f16 k h9 nl cl ds hb (λl=>h32 l nl cl ds hb) h33
 exact⟨h9,h16,λat_=>c11 M.f11 k h9 at_,λp=>c676 M.f676 k nl cl ds p (c684 M.f684 k h28) h16 h9,
  λok nl cl at_ v h1 h2=>c275 M.f275 (c65 C.f65 (c104 C.f104 C.f67 C.f142 C.f106)) (λp hp hs=>c48 (E9 A) C.f48 C.f74 p hp hs) (λnl cl es hb v=>c293 M.f293 M.f316 nl cl es hb v)
   (λv rank p hp=>c260 A M.f260 M.f272 M.f273 M.f274 M.f292 C.f108 v rank p hp) k ok (UN hk) nl cl at_ v h1 h2⟩
theorem aEl(C:Go.Tev.Code pg)(M:CodeAc pg)(A:Ora pg)(f664:pg.fs 664=some EQ)(k:aA)(hk:KOK k)(nl cl:Bool)(ds:List Val)(hb:ds.length<=big)(p:cB) :
  bE pg 664 [k.av,p.av,.sl nl (ds.map Val.av) cl] (qO k ds p (λv es=>∃nl cl,v = .sl nl es cl)):=by
 obtain⟨h9,h16,h11,h676,h275⟩:=aBU C M A k hk nl cl ds hb;have h264:=λat_ v=>c264 M.f264 k h9 h275 at_ v;refine bE.ofH ?_;refine gH.mono (aHy f664 M.f694 k (c677 M.f677 k) nl cl ds p (h676 p) h264 h11 [] (λ_ _=>rfl)) ?_;rintro r h' ⟨hR,_⟩;unfold qO at hR ⊢;by_cases hx:dZ k ds p=0;rw[if_pos hx]at hR;obtain⟨v,rfl,ho⟩:=hR;obtain⟨nl',cl',hc⟩:=aAs ho (El.cls _) 0;exact⟨_,hc,by rw[if_pos hx];exact⟨_,rfl,nl',cl',rfl⟩⟩;rw[if_neg hx]at hR;subst hR;exact⟨_,rfl,by rw[if_neg hx]⟩
end
end
section
section
variable{pg:Pg}
end
end
section
section
variable{pg:Pg}
end
end
section
structure CodeAx(pg:Pg):Prop where
 f12:pg.fs 12=some aBz
 f17:pg.fs 17=some aBx
 f34:pg.fs 34=some aBl
 f35:pg.fs 35=some aBk
 f261:pg.fs 261=some N5
 f263:pg.fs 263=some N4
 f265:pg.fs 265=some N2
 f276:pg.fs 276=some NZ
 f294:pg.fs 294=some NY
 f638:pg.fs 638=some HF
 f660:pg.fs 660=some NV
 f664:pg.fs 664=some EQ
 f665:pg.fs 665=some HE
 f666:pg.fs 666=some NT
 f667:pg.fs 667=some HD
 f668:pg.fs 668=some NS
 f669:pg.fs 669=some HC
 f670:pg.fs 670=some HB
 f678:pg.fs 678=some HA
 f679:pg.fs 679=some G9
 f680:pg.fs 680=some EO
 f681:pg.fs 681=some NQ
 f682:pg.fs 682=some NP
 f695:pg.fs 695=some NN
theorem aHF(k:aA)(ds:List Val)(p:cB):(p.P.length<=20->(clC k ds p).length<=big)/\∀F,(nmC k ds p F).length<=big:=by
 unfold clC nmC;by_cases hx:dZ k ds p=0
 case neg=>simp[if_neg hx,big]
 have hcx:dU k ds=0:=by by_cases h:dU k ds=0;exact h;rw[dZ,if_neg h]at hx;exact absurd hx h
 have ok:=dS (fR hcx).1;obtain⟨_,hsl,_⟩:=qG (ds:=ds) ok;have hso:=ok.out;simp only[bO,aG,aY]at hso;obtain⟨_,⟨⟨⟨⟨⟨⟨_,_⟩,_⟩,hi8⟩,_⟩,hV4⟩,hL4⟩,_⟩:=hso;have hfb:fF k ds p=true:=by rw[dZ,if_pos hcx]at hx;cases hb:fF k ds p;rw[hb]at hx;simp at hx;rfl
 simp only[fF,aG,aY]at hfb;obtain⟨⟨⟨⟨b1,_⟩,_⟩,_⟩,_⟩:=hfb;refine⟨λhP=>?_,λF=>?_⟩;have hl20:∀at_,(cY at_ (aF k)).length<=20:=λat_=>by have:=(iV at_ _ (aF k) rfl).2;omega
 have h1:=yC hl20 p.P (List.range (k.list.es.length+2));rw[List.length_range]at h1;have h2:(k.list.es.length+2)*(20*20)<=500*(20*20):=Nat.mul_le_mul_right _ (by omega);simp only[if_pos hx,aHp,big];omega;simp only[if_pos hx,MF,aI,List.length_range,big];omega
section
variable{pg:Pg}
theorem aHE(C:Go.Tev.Code pg)(D:Code3 pg)(M:CodeAc pg)(N:CodeAx pg)(A:Ora pg)(O:aIr pg)(h662:Ret pg 662 [] (.bool true))(k:aA)(hk:KOK k)(p:cB)(nl cl:Bool)(ds:List Val)(hb:ds.length<=big):Ret pg 660 [k.av,p.av,.sl nl (ds.map Val.av) cl] (.bool true):=by
 have h77:∀s:Str,Ret pg 77 [.str s.bs] (.bool (gR s.bs)):=λs=>c77 D.f77 D.f114 D.f115 s.bs s.ok;have h54:∀l:Lin,Ret pg 54 [l.av] (.bool (fE l)):=c54 D.f54 h77 D.f90;have h10:=aKh C D k hk;have h34:=λl nl cl ds hb=>aOt N.f34 h54 l nl cl ds hb;have h35:=λt=>c35 N.f35 h34 t nl cl ds hb;have h17:=c17 N.f17 k h10 nl cl ds hb (λl=>h34 l nl cl ds hb) h35;have h276:lH k->∀(nl cl:Bool)(at_ v:Nat),at_<k.list.es.length->v<k.values.es.length->Ret pg 276 [k.av,.sl nl ((aF k).map bQ) cl,.int .i64 at_,.int .i64 v] (.bool (pL k at_ v)):=
  λok nl cl at_ v h1 h2=>c276 N.f276 (c88 D.f88 (c121 D.f121 D.f162 D.f191)) (λp hp hs v=>c294 N.f294 (c37 D.f37 D.f55) p hp hs v)
   (λv rank p hp=>c261 N.f261 (aJY D.f122 D.f163) (c162 D.f162 D.f191) v rank p hp) k ok (UN hk) nl cl at_ v h1 h2
 have h265:=λat_ v=>c265 N.f265 k h10 h276 at_ v;have h695:=c695 N.f695 k (λat_=>c12 N.f12 k h10 at_) (c263 N.f263 k h10 h276);have h678:=c678 N.f678 k nl cl ds p h17 h10 h695;obtain⟨h9,h16,h11,h676,h275⟩:=aBU C M A k hk nl cl ds hb;have h677:=c677 M.f677 k;have e1:=c680 N.f680 M.f694 k h677 nl cl ds p (h676 p) h11 681 [] rfl zB (λ_ _=>rfl) (λ_ _=>rfl) (λhp0 hpk h v es ha ho hb hg=>c681 N.f681 p.pk hpk h ha v es ho hb hg);have e2:=c680 N.f680 M.f694 k h677 nl cl ds p (h676 p) h11 682 [.fp p.av] (by simp[treeL,AV.tree,cB.avc,gI p.P,bJ (f:=aJ) (λ_=>rfl) p.C]) (λes=>jD es p.pk.toNat) (λ_ _=>rfl) (λ_ _=>rfl) (λhp0 hpk h v es ha ho hb hg=>c682 O N.f682 p hp0 hpk h ha v es ho hb hg);obtain⟨l1,l2⟩:=aHF k ds p
 exact c660 N.f660 N.f670 k nl cl ds p zB (λes=>jD es p.pk.toNat) (l2 _) (l2 _) h662 _ (λh=>l1 (by simp only[aG,aY]at h;omega)) (c663 M.f663 k (aPK C k hk) p nl cl ds) (aEl C M A N.f664 k hk nl cl ds hb p) (c665 N.f665 N.f679 N.f638 k nl cl ds p h678 h265)
  (c666 N.f666 k nl cl ds p e1) (c667 N.f667 k nl cl ds p h678) (c668 N.f668 k nl cl ds p e2) (c669 N.f669 k nl cl ds p h678)
end
end
end Go.Tev
