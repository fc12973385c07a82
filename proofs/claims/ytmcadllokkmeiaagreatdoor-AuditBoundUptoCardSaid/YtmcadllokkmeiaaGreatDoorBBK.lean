import Derived.Test.YtmcadllokkmeiaaGreatDoorBBJ
import Derived.Test.YtmcadllokkmeiaaGreatDoorBBH
import Derived.Test.YtmcadllokkmeiaaGreatDoorBBF
import Derived.Test.YtmcadllokkmeiaaGreatDoorBBD
import Derived.Test.YtmcadllokkmeiaaGreatDoorBBG
set_option linter.all false
namespace Go.Tev
section
def jA(k:aA)(at_:Int):Int:=
 if 0<=at_/\at_<(k.aSf.es.length:Int)/\0<=d7 k at_.toNat then (match k.aSf.es[at_.toNat]? with|some q=>q.value|none => -1) else -1
theorem aER:∀l:List Sp,(∀p∈l,0<=p.2/\p.2<=4096)->0<=S2 l/\S2 l<=4096*l.length
 |[],_=>by simp[S2]
 |p::r,h=>by have h1:=h p (by simp);have h2:=aER r (λq hq=>h q (by simp[hq]));simp only[S2,List.length_cons];omega
theorem PT{k:aA}{ds:List Val}(hx:cL k ds=0)(hf:qT k=true)(j:Nat):0<=kI j (mP k ds) 0/\kI j (mP k ds) 0<=81920:=by
 have ok:=cA (cD hx).1;have hz:=qD hx;obtain⟨hn,_⟩:=s7 hf;have hi:k.aSg.toNat<=k.aSe.es.length:=by have:=ok.out;simp only[bJ,aF,aR]at this;obtain⟨_,⟨⟨⟨⟨⟨⟨_,_⟩,hi0⟩,_⟩,hiV⟩,_⟩,_⟩,_⟩:=this;omega
 have h:=D7 ok ds hz hn hi;have hl:=(gO ((j:Int)-1) _ (aD k) rfl).2;obtain⟨_,hsl,_⟩:=nP (ds:=ds) ok;rw[LI ok hz hn h]
 have:=aER ((cC ((j:Int)-1) (aD k)).map (plI (eQ k (bK k ds) k.aSf.es).1)) (λp hp=>by
  obtain⟨v,hv,rfl⟩:=List.mem_map.1 hp;have:=oC hz h hv;omega)
 rw[aM]at this;omega
theorem PU{k:aA}{ds:List Val}(hx:cL k ds=0)(j:Nat) :
  oW k ds j=if 0<=jA k ((j:Int)-1) then kI j (mP k ds) 0-bI (bK k ds) (jA k ((j:Int)-1)).toNat else kI j (mP k ds) 0:=by
 have ok:=cA (cD hx).1;by_cases hc:0<j/\j<=k.aSf.es.length/\0<=d7 k (j-1);have e:(((j:Int)-1)).toNat=j-1:=by omega
 have hlt:j-1<k.aSf.es.length:=by omega
 have hq:k.aSf.es[j-1]?=some k.aSf.es[j-1]:=aW hlt;generalize hqq:k.aSf.es[j-1]=q at hq;have hes:k.aSf.es=k.aSf.es.take (j-1)++q::k.aSf.es.drop (j-1+1):=by rw[<-hqq,<-i8 hlt,List.take_append_drop]
 have hq0:=(d5 (ok.ker _ _ _ hes)).1;have hi0:=vW ok;have ht:jA k ((j:Int)-1)=q.value:=by rw[jA,e,if_pos (And.intro (by omega) (And.intro (by omega) hc.2.2)),hq]
 rw[oW,if_pos hc,hq,ht,if_pos (by omega)];have ht:jA k ((j:Int)-1) = -1:=by rw[jA,if_neg];rintro⟨h1,h2,h3⟩;rw[show ((j:Int)-1).toNat=j-1 from by omega]at h3;exact hc ⟨by omega,by omega,h3⟩
 rw[oW,if_neg hc,ht,if_neg (by decide)]
theorem aBm{k:aA}{ds:List Val}(hx:cL k ds=0)(at_:Int):jA k at_ = -1\/0<=jA k at_/\(jA k at_).toNat<k.aSe.es.length:=by
 have ok:=cA (cD hx).1;rw[jA];split;rename_i hc;have hlt:at_.toNat<k.aSf.es.length:=by omega
 have hq:k.aSf.es[at_.toNat]?=some k.aSf.es[at_.toNat]:=aW hlt;generalize hqq:k.aSf.es[at_.toNat]=q at hq;have hes:k.aSf.es=k.aSf.es.take at_.toNat++q::k.aSf.es.drop (at_.toNat+1):=by rw[<-hqq,<-i8 hlt,List.take_append_drop]
 obtain⟨q0,q1,_⟩:=d5 (ok.ker _ _ _ hes);have hi0:=vW ok;rw[hq];exact .inr ⟨by simp only;omega,by simp only;omega⟩;exact .inl rfl
theorem aAr(k:aA)(ds:List Val)(j:Nat):((List.range j++[j]).map (oW k ds)).foldl mxI 0=mxI (((List.range j).map (oW k ds)).foldl mxI 0) (oW k ds j):=by simp
section
variable{pg:Pg}
theorem c685(hf:pg.fs 685=some Q4)(k:aA)(n c:Bool)(at_:Int):Ret pg 685 [k.av,.sl n ((bV k).map aH) c,.int .i64 at_] (.int .i64 (jA k at_)):=by
 have hcl:(bV k).length=k.aSf.es.length:=by rw[kT,mM]
 rw[aA.avc];refine Ret.ofX hf ?_;unfold Q4;cases b1:decide (at_<0)
 case true=>
  have e:jA k at_ = -1:=by have:=aO b1;rw[jA,if_neg (by omega)]
  rw[e];simp only[b1,go_sem,seval]
 have h0:=bW b1;cases b2:decide ((k.aSf.es.length:Int)<=at_)
 case true=>
  have e:jA k at_ = -1:=by have:=aO b2;rw[jA,if_neg (by omega)]
  rw[e];simp only[b1,b2,aM,go_sem,seval]
 have h1:=bW b2;obtain⟨j,rfl⟩:∃j:Nat,at_=j:=⟨at_.toNat,by omega⟩
 have hjl:j<k.aSf.es.length:=by omega
 have l5:((j:Int)<((bV k).length:Int))=True:=aK (by rw[hcl];omega);have l6:((j:Int)<(k.aSf.es.length:Int))=True:=aK (by omega);have hcj:(bV k)[j]?=some (d7 k j):=by rw[kT,lE,fX,List.getElem?_range hjl];rfl
 have hcj':((bV k).map aH)[j]?=some (aH (d7 k j)):=by rw[fX,hcj];rfl
 cases b3:decide (d7 k j<0)
 case true=>
  have e:jA k (j:Int) = -1:=by have:=aO b3;rw[jA,dU,if_neg (by omega)]
  rw[e];simp only[b1,b2,l5,hcj',b3,aM,go_sem,seval]
 have h3:=bW b3;have hq:k.aSf.es[j]?=some k.aSf.es[j]:=aW hjl;generalize k.aSf.es[j]=q at hq;have e:jA k (j:Int)=q.value:=by rw[jA,dU,if_pos ⟨by omega,by omega,by omega⟩,hq]
 rw[e];simp only[b1,b2,l5,hcj',b3,aM,go_sem,seval];simp only[l6,hq,aG.avc,go_sem,seval]
set_option maxRecDepth 100000 in
set_option maxHeartbeats 4000000 in
theorem c671(hf:pg.fs 671=some G1)(h694:pg.fs 694=some DI)(k:aA)(h677:Ret pg 677 [k.av] (.fn 694 [.fp k.av]))(h685:∀(n c:Bool) (at_:Int),Ret pg 685 [k.av,.sl n ((bV k).map aH) c,.int .i64 at_] (.int .i64 (jA k at_)))
  (nl cl:Bool) (ds:List Val) (h684:Ret pg 684 [k.av] (.int .i64 (cY k).2)) (h16:Ret pg 16 [k.av,.sl nl (ds.map Val.av) cl] (iL k ds)) (h11:∀at_:Int,bQ pg 11 [k.av,.int .i64 at_] (kL k at_)) (h262:bQ pg 262 [k.av] (AM k)) (hfew:qT k=true) :
  Ret pg 671 [k.av,.sl nl (ds.map Val.av) cl] (.tup [.int .i64 (if cL k ds=0 then wC k ds else 0),.int .i64 (cL k ds)]):=by
 obtain⟨r2,a2,s2⟩:=h262;rw[aA.avc]at h16 h684 a2;by_cases hc:(cY k).2=0
 case neg=>
  have b0:decide ((cY k).2=0)=false:=by simp[hc]
  rw[JX ds hc,aA.avc];refine Ret.ofX hf ?_;unfold G1;refine Wk ?_;refine aB h684 ?_;simp only[b0,go_sem,seval]
 have b0:decide ((cY k).2=0)=true:=by simp[hc]
 by_cases hx:cL k ds=0
 case neg=>
  have b9:decide (cL k ds=0)=false:=by simp[hx]
  rw[iL,if_neg hx]at h16;rw[if_neg hx,aA.avc];refine Ret.ofX hf ?_;unfold G1;refine Wk ?_;refine aB h684 ?_;simp only[b0,go_sem,seval];refine aB h16 ?_;simp only[b9,go_sem,seval]
 rw[iL,if_pos hx]at h16;rw[if_pos hx,hx];rw[AM,if_pos hc]at s2;obtain⟨n5,c5,_,rfl⟩:=s2;have hfold:eI (fA ds) (aD k) k.aSe.es=bK k ds:=rfl;rw[hfold]at h16;have ok:=cA hc;obtain⟨_,hsl,hzl⟩:=nP (ds:=ds) ok;rw[hfold]at hzl;obtain⟨p1,p2⟩:=zL (ds:=ds) ok;rw[hfold]at p2;have hsz:=qD hx;have hll:∀at_,(cC at_ (aD k)).length<=big:=λat_=>by have:=(gO at_ _ (aD k) rfl).2;have:=k.aSe.ok;omega
 have hLb:=k.aSf.ok;have h677':=h677;have h685':=h685;rw[aA.avc]at h677';simp only[aA.avc]at h685';rw[aA.avc];refine Ret.ofX hf ?_;unfold G1;refine Wk ?_;refine aB h684 ?_;simp only[b0,go_sem,seval];refine aB h16 (Wk ?_);refine aB a2 (Wk ?_);refine aB h677' (Wk ?_)
 refine KT h694 k hc h11 (by rw[aA.avc];rfl) (λj hp=>hp.get 1=some (0,.blk k.cells 6 true true false)/\hp.get 13=some (0,.blk [.sl false ((bK k ds).map aH) true] 1 false true false)/\hp.get 21=some (0,.blk [.sl n5 ((bV k).map aH) c5] 1 false true false) /\
  hp.get 25=some (0,.blk [.int .i64 (((List.range j).map (oW k ds)).foldl mxI 0)] 1 false true false)) ?_ ?_ ?_ ?_
 rintro j hp e0 o0 ⟨g1,g13,g21,g25⟩;have hh:∀q,q≠33->(hp.put 33 e0 o0).get q=hp.get q:=λq hq=>by rw[aI,if_neg (Ne.symm hq)]
 exact⟨(hh _ (by decide)).trans g1,(hh _ (by decide)).trans g13,(hh _ (by decide)).trans g21,(hh _ (by decide)).trans g25⟩;exact⟨by simp only[aI,go_sem,seval];rfl,by simp only[aI,go_sem,seval],by simp only[aI,go_sem,seval],by simp only[aI,go_sem,seval];rfl⟩;intro j n3 z3 hj hp;have hlb:=hll ((j:Int)-1);have hsum:=wA (bK k ds) j 0 _ (mP k ds) rfl p2;rw[p1]at hsum;have hbnd:=PT hx hfew j;have hnm:=PU hx j;have htk:=aBm hx ((j:Int)-1);have hfd:=aAr k ds j
 have hlv:∀w∈cC ((j:Int)-1) (aD k),0<=w/\w.toNat<(bK k ds).length:=λw hw=>by obtain⟨u,u1,u2,u3⟩:=eE.1 hw;have:=(cJ.1 u2).1;exact⟨u1,by omega⟩
 generalize kI j (mP k ds) 0=sm at hsum hbnd hnm;generalize oW k ds j=nm at hnm hfd;generalize bK k ds=sz at *;generalize hlvd:cC ((j:Int)-1) (aD k)=lv at hlb hlv hsum ⊢;generalize hat:(j:Int)-1=at_ at hlvd hnm htk ⊢;refine Wk ?_;rintro hp1 ⟨g1,g13,g21,g25⟩;generalize ((List.range j).map (oW k ds)).foldl mxI 0=bst at hfd g25
 refine aJ lv (λd r env hp2=>∃n:Int,env=L9 (.pt 1 0 0) (.pt 13 0 0) (.pt 21 0 0) (.pt 25 0 0) (.int .i64 at_) (.int .i64 n) (.sl n3 (lv.map aH) z3) (.int .i64 lv.length) (.int .i64 d.length)/\hp2=hp1 /\
  r.foldl (λa v=>wr .i64 (a+(sz[v.toNat]?).getD 0)) n=sm) ?_ ?_ ?_
 exact⟨0,rfl,rfl,hsum⟩;rintro env hp2 ⟨n,rfl,rfl,hI⟩;obtain rfl:n=sm:=hI;have ht:=h685' n5 c5 at_;generalize jA k at_=tv at ht hnm htk;have g1':=g1;simp only[aA.cells,Sl.av]at g1;simp only[L8,L9,bG,g1,g21,go_sem,seval];refine aB ht ?_;rcases htk with rfl|⟨t0,t1⟩
 rw[if_neg (by decide)]at hnm;subst hnm;simp only[g25,mx2,go_sem,seval]
 first|exact⟨g1',g13,g21,by rw[hfd];rfl⟩|exact⟨g1',g21,by rw[hfd];rfl⟩|exact⟨g1',by rw[hfd];rfl⟩|exact⟨g1',g13,by rw[hfd];rfl⟩|(rw[hfd];rfl)
 obtain⟨v,rfl⟩:∃v:Nat,tv=v:=⟨tv.toNat,by omega⟩
 rw[if_pos t0,dU]at hnm;rw[dU]at t1;have hzv:=hsz v;have b5:decide (0<=(v:Int))=true:=by simp
 have l2:((v:Int)<(sz.length:Int))=True:=aK (by omega);have hz':(sz.map aH)[v]?=some (aH (bI sz v)):=by rw[fX,bI,fY,aW (by omega)];rfl
 have w1:wr .i64 (n-bI sz v)=nm:=by rw[hnm];exact aU (by omega) (by omega)
 simp only[b5,g13,l2,hz',w1,g25,mx2,go_sem,seval]
 first|exact⟨g1',g13,g21,by rw[hfd];rfl⟩|exact⟨g1',g21,by rw[hfd];rfl⟩|exact⟨g1',by rw[hfd];rfl⟩|exact⟨g1',g13,by rw[hfd];rfl⟩|(rw[hfd];rfl)
 rintro d x r env hp2 hes ⟨n,rfl,rfl,hI⟩;obtain⟨hget,f1,f2,ew⟩:=dJ hes hlb;obtain⟨x0,x1⟩:=hlv x (by rw[hes];simp);obtain⟨v,rfl⟩:∃v:Nat,x=v:=⟨x.toNat,by omega⟩
 rw[dU]at x1;have l2:((v:Int)<(sz.length:Int))=True:=aK (by omega);have hz':(sz.map aH)[v]?=some (aH (sz[v]?.getD 0)):=by rw[fX,aW (by omega)];rfl
 simp only[L8,L9,f1,f2,hget,g13,l2,hz',ew,go_sem,seval];exact⟨_,rfl,by rw[<-hI,List.foldl_cons,dU]⟩;rintro hp ⟨g1,g13,g21,g25⟩;rw[show ((List.range (k.aSf.es.length+2)).map (oW k ds)).foldl mxI 0=wC k ds from rfl]at g25;simp only[g25,go_sem,seval]
end
end
section
theorem YJ{sz:List Int}{sp:List Sp}{pk:Int}:∀(P:List Sp)(i:Nat),(∀w,w<P.length->okP sz sp pk (i+w) (plc P w)=true)->rY sz sp pk i P=true
 |[],_,_=>rfl
 |x::r,i,h=>by rw[rY,aF];refine⟨h 0 (by simp),YJ r (i+1) (λw hw=>?_)⟩;have:=h (w+1) (by simpa using hw);rw[show i+1+w=i+(w+1) from by omega];exact this
theorem IX{k:aA}{P:List Sp}{at_:Int}:∀(r d:List Int),(d++r).Nodup->(∀v∈d++r,∀w∈d++r,v≠w->gG k P at_ v.toNat w.toNat=true)->mU k P at_ d r=true
 |[],_,_,_=>rfl
 |v::r,d,hn,h=>by
  have e:d++v::r=d++[v]++r:=by simp
  rw[mU,aF];refine⟨?_,IX r (d++[v]) (by rw[<-e];exact hn) (by rw[<-e];exact h)⟩;rw[eT];intro w hw;refine h v (by simp) w (by simp[hw]) ?_;rintro rfl;rw[List.nodup_append]at hn;exact hn.2.2 v hw v (by simp) rfl
theorem I6{k:aA}{P:List Sp}:∀(l:List Nat)(n:Nat),(∀j∈l,mU k P ((j:Int)-1) [] (cC ((j:Int)-1) (aD k))=true)->lK k P n l=true
 |[],_,_=>rfl
 |j::r,n,h=>by rw[lK,aF];exact⟨h j (by simp),I6 r (n+1) (λi hi=>h i (by simp[hi]))⟩
section
variable{k:aA}{ds:List Val}{s:PS}
theorem TZ{j c:Nat}(h:d7 k j=(c:Int)):kS k (j:Int) (c:Int)=true:=by
 rcases qS (λv=>kS k (j:Int) (v:Int)) k.aSe.es.length 0 with h1|⟨c',h1,h2,_,_⟩
 rw[d7,h1]at h;omega;rw[d7,h1]at h;obtain rfl:c'=c:=by omega
 exact h2
theorem ON(hc:(cY k).2=0){v w:Nat}{a b:Sp}(hw:(aD k)[w]?=some b)(he:Exc k v a b)(ho:(plc s.1 v).1=(plc s.1 w).1){at_:Int}(h1:b.1<=at_)(h2:at_<=a.2):qC k s.1 at_ w v=true:=by
 obtain⟨j,x1,x2,x3⟩:=he;obtain rfl:at_=(j:Int):=by omega
 have hm:=TZ x3;have hlt:j<k.aSf.es.length:=by by_cases hlt:j<k.aSf.es.length;exact hlt;simp only[kS,dU,eK (Nat.le_of_not_lt hlt)]at hm;cases hm
 have hq:k.aSf.es[j]?=some k.aSf.es[j]:=aW hlt;have hwq:=yB hw x1 hq;have hq0:0<=(k.aSf.es[j]).value:=by
  have ok:=cA hc;have hes2:k.aSf.es=k.aSf.es.take j++k.aSf.es[j]::k.aSf.es.drop (j+1):=by rw[<-i8 hlt,List.take_append_drop]
  obtain⟨q0,_,_⟩:=d5 (ok.ker _ _ _ hes2);have:=vW ok;omega
 have hval:wY k (j:Int) w=true:=by simp only[wY,dU,hq];exact decide_eq_true (by omega)
 have b1:decide (0<=(j:Int))=true:=by simp
 have b2:decide ((j:Int)<(k.aSf.es.length:Int))=true:=by simp;exact hlt
 have b3:decide ((plc s.1 w).1=(plc s.1 v).1)=true:=decide_eq_true ho.symm;have b4:yW k (j:Int) (v:Int)=true:=by simp[yW,hc,hm]
 simp only[qC,b1,b2,hval,b3,b4,Bool.and_self]
theorem T4(hx:cL k ds=0)(hf:qT k=true)(p:dK)(hP:p.P=(eQ k (bK k ds) k.aSf.es).1)(hC:p.C=bV k)(hpk:p.pk=(eQ k (bK k ds) k.aSf.es).2)(hm:p.pk<=1000000):pB k ds p=true:=by
 have hc:=(cD hx).1;have ok:=cA hc;have hz:=qD hx;obtain⟨hn,_⟩:=s7 hf;have hi:k.aSg.toNat<=k.aSe.es.length:=by have:=ok.out;simp only[bJ,aF,aR]at this;obtain⟨_,⟨⟨⟨⟨⟨⟨_,_⟩,hi0⟩,_⟩,hiV⟩,_⟩,_⟩,_⟩:=this;omega
 have h:=D7 ok ds hz hn hi;generalize eQ k (bK k ds) k.aSf.es=s at *;have hcl:p.C.length=k.aSf.es.length:=by rw[hC,kT,mM]
 have hpl:p.P.length=k.aSe.es.length:=by rw[hP];exact h.len
 obtain⟨_,hsl,hzl⟩:=nP (ds:=ds) ok;have hnn:=h.nn;have b0:decide (cL k ds=0)=true:=by simp[hx]
 have b1:decide ((p.P.length:Int)=(k.aSe.es.length:Int))=true:=decide_eq_true (by omega);have b2:decide ((p.C.length:Int)=(k.aSf.es.length:Int))=true:=decide_eq_true (by omega);have b3:decide (p.pk<0)=false:=decide_eq_false (by omega);have b4:decide (1000000<p.pk)=false:=decide_eq_false (by omega);have b5:rY (bK k ds) (aD k) p.pk 0 p.P=true:=by
  refine YJ p.P 0 (λw hw=>?_);rw[bF,hP];have hws:w<(aD k).length:=by omega
  have hsp:=TN hws;by_cases h2:(plc (aD k) w).1 = -2;have hnb:¬Bef k k.aSf.es.length w:=by rintro⟨a,a1,a2,_⟩;rw[hsp]at a1;cases a1;exact a2 h2
  have hs0:bI (bK k ds) w=0:=by rw[bI,fY,bK,yL _ _ _ w _ _ hsp (aW (by omega)),if_pos h2];rfl
  rw[h.no w hnb];simp[okP,h2,hs0];have hb:Bef k k.aSf.es.length w:=tG (at_:=0) hsp h2;have q1:=h.pl w hb;have q2:=h.pe w hb;simp only[okP,if_neg h2,aF,aR];omega
 have b6:lK k p.P 0 (List.range (k.aSf.es.length+2))=true:=by
  refine I6 _ 0 (λj _=>IX _ [] (by simpa using (gO ((j:Int)-1) _ (aD k) rfl).1) ?_);intro v hv w hw hne;rw[fW]at hv hw;rw[hP];cases hmt:fL (plc s.1 v.toNat) (plc s.1 w.toNat);simp only[gG,hmt,Bool.not_false,Bool.true_or];obtain⟨a,v0,ha,hla⟩:=eE.1 hv;obtain⟨b,w0,hb,hlb⟩:=eE.1 hw;simp only[fQ,aF,eA,eJ,aR]at hla hlb;have hDv:Bef k k.aSf.es.length v.toNat:=tG (at_:=0) ha hla.1.1;have hDw:Bef k k.aSf.es.length w.toNat:=tG (at_:=0) hb hlb.1.1;have hnn':v.toNat≠w.toNat:=by omega
  by_cases hab:a.1<=b.1;obtain⟨he,ho⟩:=h.dj _ _ a b hDv hDw hnn' ha hb hab (by omega) hmt;have:=ON hc hb he ho (at_:=(j:Int)-1) hlb.1.2 hla.2;simp only[gG,this,Bool.or_true];rw[kR]at hmt;obtain⟨he,ho⟩:=h.dj _ _ b a hDw hDv (λe=>hnn' e.symm) hb ha (by omega) (by omega) hmt;have:=ON hc ha he ho (at_:=(j:Int)-1) hla.1.2 hlb.2;simp only[gG,this,Bool.or_true,Bool.true_or]
 simp only[pB,b0,b1,b2,b3,b4,b5,b6,Bool.not_false,Bool.and_self]
end
end
section
theorem FE{k:aA}{ds:List Val}{p:dK}(h:pB k ds p=true):cL k ds=0/\oZ k ds p=0:=by rw[aFb,aF,aR]at h;refine⟨?_,h.1⟩;by_cases hx:cL k ds=0;exact hx;have:=h.1;rw[oZ,if_neg hx]at this;exact absurd this hx
section
variable{pg:Pg}
set_option maxRecDepth 100000 in
set_option maxHeartbeats 8000000 in
theorem c661(hf:pg.fs 661=some DJ)(k:aA)(nl cl:Bool)(ds:List Val)(p:dK)(h662:Ret pg 662 [] (.bool true))
  (h663:Ret pg 663 [k.av,p.av,.sl nl (ds.map Val.av) cl] (.bool (qT k&&decide ((ds.length:Int)<=13)&&decide ((p.P.length:Int)<=20)&&decide ((p.C.length:Int)<=20))))
  (h616:bQ pg 616 [k.av,.sl nl (ds.map Val.av) cl] (FZ k ds)) (h666:∀q:dK,bQ pg 666 [k.av,q.av,.sl nl (ds.map Val.av) cl] (rH k ds q kM))
  (h668:bQ pg 668 [k.av,p.av,.sl nl (ds.map Val.av) cl] (rH k ds p (λes=>fM es p.pk.toNat))) (h619:Ret pg 619 [k.av,p.av,.sl nl (ds.map Val.av) cl] (.bool (pB k ds p)))
  (h671:qT k=true->Ret pg 671 [k.av,.sl nl (ds.map Val.av) cl] (.tup [.int .i64 (if cL k ds=0 then wC k ds else 0),.int .i64 (cL k ds)]))
  (h19:bQ pg 19 [k.av,.sl nl (ds.map Val.av) cl] (xF k ds)) (h17:bQ pg 17 [k.av,.sl nl (ds.map Val.av) cl] (gA k ds)) (h263:bQ pg 263 [k.av] (AM k)) :
  Ret pg 661 [k.av,p.av,.sl nl (ds.map Val.av) cl] (.bool true):=by
 obtain⟨r16,a16,s16⟩:=h616;have tlP:=j0 p.P;by_cases hfew:qT k=true
 case neg=>
  have hfew:qT k=false:=by simpa using hfew
  rw[hfew,aA.avc,dK.avc]at h663;rw[aA.avc,dK.avc];refine Ret.ofX hf ?_;unfold DJ;refine Wk ?_;refine bZ h662 rfl rfl (Wk ?_);refine bZ h663 (by simp only[tlP,go_sem,seval]) rfl ?_;simp only[go_sem,seval]
 cases hsm:qT k&&decide ((ds.length:Int)<=13)&&decide ((p.P.length:Int)<=20)&&decide ((p.C.length:Int)<=20);rw[hsm,aA.avc,dK.avc]at h663;rw[aA.avc,dK.avc];refine Ret.ofX hf ?_;unfold DJ;refine Wk ?_;refine bZ h662 rfl rfl (Wk ?_);refine bZ h663 (by simp only[tlP,go_sem,seval]) rfl ?_;simp only[go_sem,seval];rw[hsm]at h663;by_cases hx:cL k ds=0
 case neg=>
  have hs:pB k ds p=false:=by cases hs:pB k ds p;rfl;exact absurd (FE hs).1 hx
  have b0:decide (cL k ds=0)=false:=by simp[hx]
  rw[FZ,if_neg hx]at s16;subst s16;rw[hs]at h619;rw[aA.avc]at a16;rw[aA.avc,dK.avc]at h663 h619;rw[aA.avc,dK.avc];refine Ret.ofX hf ?_;unfold DJ;refine Wk ?_;refine bZ h662 rfl rfl (Wk ?_);refine bZ h663 (by simp only[tlP,go_sem,seval]) rfl (Wk ?_);refine aB a16 ?_;simp only[b0,go_sem,seval];refine bZ h619 (by simp only[tlP,go_sem,seval]) rfl ?_;simp only[go_sem,seval]
 have h71:=h671 hfew;rw[if_pos hx,hx]at h71;rw[FZ,if_pos hx]at s16;obtain⟨m1,d1,m2,d2,rfl⟩:=s16;obtain⟨hn20,hn16⟩:=s7 hfew;have hcl:(bV k).length=k.aSf.es.length:=by rw[kT,mM]
 have hpl:(eQ k (bK k ds) k.aSf.es).1.length<=big:=by rw[xD];exact k.aSe.ok
 have hC:(bV k).length<=big:=by rw[hcl];exact k.aSf.ok
 have hq:=h666 ⟨(eQ k (bK k ds) k.aSf.es).1,bV k,(eQ k (bK k ds) k.aSf.es).2,m1,d1,m2,d2,hpl,hC⟩;have hsnd:=T4 hx hfew ⟨(eQ k (bK k ds) k.aSf.es).1,bV k,(eQ k (bK k ds) k.aSf.es).2,m1,d1,m2,d2,hpl,hC⟩ rfl rfl rfl;obtain⟨rq,aq,sq⟩:=hq;have htop:=aCe hx hfew;have tlq:=j0 (eQ k (bK k ds) k.aSf.es).1;obtain⟨r66,a66,s66⟩:=h666 p;obtain⟨r68,a68,s68⟩:=h668;obtain⟨r19,a19,s19⟩:=h19;obtain⟨r17,a17,s17⟩:=h17;obtain⟨r63,a63,s63⟩:=h263;rw[xF,if_pos hx]at s19;obtain⟨n3,c3,rfl⟩:=s19;rw[gA,if_pos hx,show eI (fA ds) (aD k) k.aSe.es=bK k ds from rfl]at s17;obtain⟨n4,c4,rfl⟩:=s17;rw[AM,if_pos (cD hx).1]at s63;obtain⟨n5,c5,_,rfl⟩:=s63;have hzl:(bK k ds).length=k.aSe.es.length:=OP (cA (cD hx).1) ds;have hz:=qD hx;have hNl:∀P F,(kA k P F).length=k.aSf.es.length+2:=λP F=>by simp[kA]
 have hNb:=aAa hx;have hNL:(u0 k ds).length=k.aSf.es.length+2:=by simp[u0]
 have hI0:0<=k.aSg:=vW (cA (cD hx).1)
 have hker:=λj (hj:j<k.aSf.es.length) (q:aG) (hq:k.aSf.es[j]?=some q)=>by
  have hes2:k.aSf.es=k.aSf.es.take j++q::k.aSf.es.drop (j+1):=by rw[<- (cJ.1 hq).2,<-i8 hj,List.take_append_drop]
  exact d5 ((cA (cD hx).1).ker _ _ _ hes2)
 simp only at hsnd aq sq
 have hmade:decide ((eQ k (bK k ds) k.aSf.es).2<=1000000)=true->∃nl cl,rq = .tup [.sl nl ((kA k (eQ k (bK k ds) k.aSf.es).1 kM).map aH) cl,.int .i64 0]:=λh=>by have:=(FE (hsnd (aO h))).2;rw[rH,if_pos this]at sq;exact sq
 have htop2:decide ((eQ k (bK k ds) k.aSf.es).2<=1000000)=true->(kA k (eQ k (bK k ds) k.aSf.es).1 kM).foldl mxI 0=(eQ k (bK k ds) k.aSf.es).2:=λh=>htop (aO h);clear htop sq hsnd;have hQl:=hNl (eQ k (bK k ds) k.aSf.es).1 kM;generalize kA k (eQ k (bK k ds) k.aSf.es).1 kM=NQ at hmade htop2 hQl;generalize eQ k (bK k ds) k.aSf.es=s at *
 have hcond:pB k ds p=true->(∃nl cl,r66 = .tup [.sl nl ((kA k p.P kM).map aH) cl,.int .i64 0])/\(∃nl cl,r68 = .tup [.sl nl ((kA k p.P (λes=>fM es p.pk.toNat)).map aH) cl,.int .i64 0])/\wC k ds<=p.pk /\
   ∀j,j<k.aSf.es.length+2->oW k ds j<=p.pk-fM (eZ k p.P ((j:Int)-1)) p.pk.toNat/\p.pk-fM (eZ k p.P ((j:Int)-1)) p.pk.toNat<=kI j (mP k ds) 0 /\
   p.pk-fM (eZ k p.P ((j:Int)-1)) p.pk.toNat<=kM (eZ k p.P ((j:Int)-1))/\kM (eZ k p.P ((j:Int)-1))<=p.pk/\0<=p.pk/\p.pk<=1000000/\0<=fM (eZ k p.P ((j:Int)-1)) p.pk.toNat:=λh=>by
  have h0:=(FE h).2;rw[rH,if_pos h0]at s66 s68;refine⟨s66,s68,aCi hx hfew h,λj hj=>?_⟩;obtain⟨a,b,c,d⟩:=SP hx hfew h j hj;simp only[pB,aF,aR,eA,eJ]at h;exact⟨a,b,c,d,by omega,by omega,KV _ _⟩
 clear s66 s68 h666 h671;rw[aA.avc]at a16 h71 a19 a17 a63;rw[aA.avc,dK.avc]at h663 h619 aq a66 a68;simp only at aq;have hkc:k.av = .agg k.cells:=rfl;rw[aA.avc,dK.avc];refine Ret.ofX hf ?_;unfold DJ;refine Wk ?_;refine bZ h662 rfl rfl (Wk ?_);refine bZ h663 (by simp only[tlP,go_sem,seval]) rfl (Wk ?_);refine bZ a16 (by simp only[tlq,go_sem,seval]) rfl ?_;cases b4:decide (s.2<=1000000)
 case' false=>simp only[b4,go_sem,seval];have g1:=trivial;have g5:=trivial;have g1':=trivial;have g5':=trivial
 case' true=>
  obtain⟨n6,c6,rfl⟩:=hmade b4;have ht:=htop2 b4;simp only[b4,go_sem,seval];refine bZ aq (by simp only[tlq,go_sem,seval]) rfl (Wk ?_)
  refine aJ NQ (λd r env hp=>env=MB (.sl nl (ds.map Val.av) cl) (.pt 1 0 0) (.pt 5 0 0) (.pt 21 0 0) (.sl n6 (NQ.map aH) c6) (.int .i64 0) (.int .i64 (d.foldl mxI 0)) (.int .i64 d.length) /\
   hp.get 1=some (0,.blk k.cells 6 true true false)/\hp.get 5=some (0,.blk p.cells 3 true true false)/\hp.get 21=some (0,.blk [.sl m1 (s.1.map bO) d1,.sl m2 ((bV k).map aH) d2,.int .i64 s.2] 3 true true false)) ?_ ?_ ?_
  exact⟨rfl,rfl,rfl,rfl⟩
  rotate_left
  rintro d x r env hp hes ⟨rfl,g1,g5,g21⟩;obtain⟨hget,f1,f2,ew⟩:=dJ hes (by rw[hQl];have:=k.aSf.ok;simp only[big]at this ⊢;omega);simp only[MA,MB,f1,f2,hget,ew,mx2,go_sem,seval];exact⟨by rw[List.foldl_append];rfl,g1,g5,g21⟩;rintro env hp ⟨rfl,g1,g5,g21⟩;have g1':=g1;have g5':=g5;simp only[aA.cells,Sl.av]at g1;simp only[dK.cells]at g5;rw[ht];simp only[MA,MB,bG,g1,g5,g21,go_sem,seval]
 all_goals
  by_cases hsn:pB k ds p=true
  case neg=>
   have hsn:pB k ds p=false:=by simpa using hsn
   rw[hsn]at h619;refine bZ h619 (by simp only[tlP,go_sem,seval]) rfl ?_;simp only[go_sem,seval]
  rw[hsn]at h619;obtain⟨⟨n7,c7,rfl⟩,⟨n8,c8,rfl⟩,hle,hbd⟩:=hcond hsn;refine bZ h619 (by simp only[tlP,go_sem,seval]) rfl ?_;simp only[g1,g5,go_sem,seval];refine aB h71 ?_;simp only[g1,g5,go_sem,seval];refine bZ a66 (by simp only[tlP,go_sem,seval]) rfl ?_;simp only[g1,g5,go_sem,seval];refine bZ a68 (by simp only[tlP,go_sem,seval]) rfl ?_;simp only[g1,g5,go_sem,seval];refine aB a19 ?_;simp only[g1,g5,go_sem,seval];refine aB a17 ?_;simp only[g1,g5,go_sem,seval];refine aB a63 ?_;have e1:decide (p.pk<wC k ds)=false:=decide_eq_false (by omega);have e2:decide (((kA k p.P kM).length:Int)=((u0 k ds).length:Int))=true:=decide_eq_true (by rw[hNl,hNL]);have e3:decide (((kA k p.P (λes=>fM es p.pk.toNat)).length:Int)=((u0 k ds).length:Int))=true:=decide_eq_true (by rw[hNl,hNL]);simp only[g1,g5,e1,e2,e3,aM,go_sem,seval];clear hcond a66 a68 a19 a17 a63 h71 h619 h663 a16 aq
  refine aJ (u0 k ds) (λd r env hp=>env=xT (.pt 1 0 0) (.pt 5 0 0) (.sl n7 ((kA k p.P kM).map aH) c7) (.sl n8 ((kA k p.P (λes=>fM es p.pk.toNat)).map aH) c8) (.sl n3 ((u0 k ds).map aH) c3) (.sl n4 ((bK k ds).map aH) c4) (.sl n5 ((bV k).map aH) c5) (.int .i64 d.length) /\
   hp.get 1=some (0,.blk k.cells 6 true true false)/\hp.get 5=some (0,.blk p.cells 3 true true false)) ?_ ?_ ?_
  exact⟨rfl,by first|rfl|exact g1',by first|rfl|exact g5'⟩;rintro env hp ⟨rfl,h1,h5⟩;simp only[xS,xT,bG,go_sem,seval]
  ·rintro d x r env hp' hes ⟨rfl,h1,h5⟩;obtain⟨hget,f1,f2,ew⟩:=dJ hes hNb;simp only[aA.cells,Sl.av]at h1;simp only[dK.cells]at h5;have hlt:=(cJ.1 hget).1;have hlt2:d.length<k.aSf.es.length+2:=by rw[hNL]at hlt;exact hlt
   have hxv:x=kI d.length (mP k ds) 0:=by have:=hget;rw[u0,fX,List.getElem?_range hlt2]at this;simpa using this.symm
   have hbd:=hbd d.length hlt2;have hxb:=PT hx hfew d.length
   have hnm:∀F,((kA k p.P F).map aH)[d.length]?=some (aH (F (eZ k p.P ((d.length:Int)-1)))):=λF=>by rw[fX,kA,fX,List.getElem?_range hlt2];rfl
   have hT:=hnm kM;have hU:=hnm (λes=>fM es p.pk.toNat);have l7:∀F,((d.length:Int)<((kA k p.P F).length:Int))=True:=λF=>aK (by rw[hNl];omega);have l8:=l7 kM;have l9:=l7 (λes=>fM es p.pk.toNat);rw[<-hxv]at hbd hxb;generalize kA k p.P kM=NT at hT l8 ⊢;generalize kA k p.P (λes=>fM es p.pk.toNat)=NU at hU l9 ⊢;generalize kM (eZ k p.P ((d.length:Int)-1))=tp at hbd hT;generalize fM (eZ k p.P ((d.length:Int)-1)) p.pk.toNat=fr at hbd hU;obtain⟨q1,q2,q3,q4,q5,q6,q7⟩:=hbd;clear hnm l7 hes hle e1 e2 e3;have r1:decide (p.pk<tp)=false:=decide_eq_false (by omega);have r3:decide (x<p.pk-fr)=false:=decide_eq_false (by omega);have r4:decide (tp<p.pk-fr)=false:=decide_eq_false (by omega);rw[oW]at q1;by_cases hd0:d.length=0
   ·rw[if_neg (by omega),<-hxv]at q1;have w5:wr .i64 ((d.length:Int)-1) = -1:=by rw[hd0];rfl
    have w6:wr .i64 (p.pk-fr)=p.pk-fr:=aU (by omega) (by omega);have r2:decide (p.pk-fr<x)=false:=decide_eq_false (by omega)
    repeat (first|simp only[xS,xT,f1,f2,hget,h1,h5,w5,hT,hU,l8,l9,w6,r1,r2,r3,r4,ew,aM,go_sem,seval]|refine aY ?_)
    rfl
   obtain⟨j,hj⟩:∃j,d.length=j+1:=⟨d.length-1,by omega⟩
   have w5:wr .i64 ((d.length:Int)-1)=(j:Int):=by rw[aU (by omega) (by omega)];omega
   rw[show d.length-1=j from by omega]at q1;cases b7:decide ((j:Int)<((bV k).length:Int))
   ·have h7:=bW b7;rw[hcl]at h7;rw[if_neg (by omega),<-hxv]at q1;have w6:wr .i64 (p.pk-fr)=p.pk-fr:=aU (by omega) (by omega);have r2:decide (p.pk-fr<x)=false:=decide_eq_false (by omega)
    repeat (first|simp only[xS,xT,f1,f2,hget,h1,h5,w5,b7,hT,hU,l8,l9,w6,r1,r2,r3,r4,ew,aM,go_sem,seval]|refine aY ?_)
    rfl
   have h7:=aO b7;have l5:((j:Int)<((bV k).length:Int))=True:=aK h7;rw[hcl]at h7;have hjl:j<k.aSf.es.length:=by omega
   have l6:((j:Int)<(k.aSf.es.length:Int))=True:=aK (by omega);have hcj:(bV k)[j]?=some (d7 k j):=by rw[kT,lE,fX,List.getElem?_range hjl];rfl
   have hcj':((bV k).map aH)[j]?=some (aH (d7 k j)):=by rw[fX,hcj];rfl
   cases b8:decide (0<=d7 k j)
   ·have h8:=bW b8;rw[if_neg (by omega),<-hxv]at q1;have w6:wr .i64 (p.pk-fr)=p.pk-fr:=aU (by omega) (by omega);have r2:decide (p.pk-fr<x)=false:=decide_eq_false (by omega)
    repeat (first|simp only[xS,xT,f1,f2,hget,h1,h5,w5,b7,l5,hcj',b8,hT,hU,l8,l9,w6,r1,r2,r3,r4,ew,aM,go_sem,seval]|refine aY ?_)
    rfl
   have h8:=aO b8;have hq:k.aSf.es[j]?=some k.aSf.es[j]:=aW hjl;generalize hqq:k.aSf.es[j]=q at hq;obtain⟨p0,p1,_⟩:=hker j hjl q hq;rw[if_pos ⟨by omega,by omega,h8⟩,hq,<-hxv]at q1;simp only at q1;obtain⟨v,hv⟩:∃v:Nat,q.value=v:=⟨q.value.toNat,by omega⟩
   rw[hv,dU]at q1;have hzv:=hz v;have t1:(0<=(v:Int))=True:=aK (by omega);have t2:((v:Int)<((bK k ds).length:Int))=True:=aK (by omega);have hz':((bK k ds).map aH)[v]?=some (aH (bI (bK k ds) v)):=by rw[fX,bI,fY,aW (by omega)];rfl
   generalize bI (bK k ds) v=z at q1 hzv hz';have w6:wr .i64 (p.pk-fr)=p.pk-fr:=aU (by omega) (by omega);have w7:wr .i64 (x-z)=x-z:=aU (by omega) (by omega);have r2:decide (p.pk-fr<x-z)=false:=decide_eq_false (by omega);simp only[xS,xT,f1,f2,hget,h1,h5,w5,b7,l5,hcj',b8,aM,go_sem,seval]
   repeat (first|simp only[f2,hget,l6,hq,aG.avc,hv,t1,t2,hz',w7,h1,h5,hT,hU,l8,l9,w6,r1,r2,r3,r4,ew,aM,go_sem,seval]|refine aY ?_)
   rfl
end
end
section
section
variable{pg:Pg}
end
end
section
section
variable{pg:Pg}
end
end
section
section
variable{pg:Pg}
end
end
section
section
variable{pg:Pg}
end
end
section
theorem C2{k:aA}{ds:List Val}{p:dK}{F:List Sp->Int}{r:AV}(h:rH k ds p F r):r.notOs=true:=by unfold rH at h;split at h;obtain⟨nl,cl,rfl⟩:=h;rfl;subst h;rfl
section
variable{pg:Pg}
theorem c666(hf:pg.fs 666=some RA)(k:aA)(nl cl:Bool)(ds:List Val)(p:dK)(h680:bQ pg 680 [k.av,p.av,.sl nl (ds.map Val.av) cl,.fn 681 []] (rH k ds p kM)) :
  bQ pg 666 [k.av,p.av,.sl nl (ds.map Val.av) cl] (rH k ds p kM):=by
 obtain⟨r8,a8,s8⟩:=h680;have hno:=C2 s8;have tlP:=j0 p.P;have tli:=cH (f:=aH) (λ_=>rfl) (kA k p.P kM);rw[aA.avc,dK.avc]at a8;rw[aA.avc,dK.avc];refine bQ.ofX hf ?_;unfold RA;have s8':=s8;unfold rH at s8';split at s8';obtain⟨nl',cl',rfl⟩:=s8';refine Wk ?_;refine bZ a8 (by simp only[tlP,go_sem,seval]) hno ?_;simp only[tli,go_sem,seval];exact s8;subst s8';refine Wk ?_;refine bZ a8 (by simp only[tlP,go_sem,seval]) hno (Wk ?_);exact s8
end
end
section
section
variable{pg:Pg}
theorem c668(hf:pg.fs 668=some Q9)(k:aA)(nl cl:Bool)(ds:List Val)(p:dK)(h680:bQ pg 680 [k.av,p.av,.sl nl (ds.map Val.av) cl,.fn 682 [.fp p.av]] (rH k ds p (λes=>fM es p.pk.toNat))) :
  bQ pg 668 [k.av,p.av,.sl nl (ds.map Val.av) cl] (rH k ds p (λes=>fM es p.pk.toNat)):=by
 obtain⟨r8,a8,s8⟩:=h680;have hno:=C2 s8;have tlP:=j0 p.P;have tli:=cH (f:=aH) (λ_=>rfl) (kA k p.P (λes=>fM es p.pk.toNat));rw[aA.avc,dK.avc]at a8;rw[aA.avc,dK.avc];refine bQ.ofX hf ?_;unfold Q9;have s8':=s8;unfold rH at s8';split at s8';obtain⟨nl',cl',rfl⟩:=s8';refine Wk ?_;refine cR a8 (keys:=[5]) (pa:=[]) (by simp only[depth,cW,bM,fE,Hp.get_cons,tlP,go_sem,seval]) (by rfl) ?_;simp only[tli,go_sem,seval];exact s8;subst s8';refine Wk ?_;refine cR a8 (keys:=[5]) (pa:=[]) (by simp only[depth,cW,bM,fE,Hp.get_cons,tlP,go_sem,seval]) (by rfl) (Wk ?_);exact s8
end
end
section
section
variable{pg:Pg}
end
end
section
structure CodeAb(pg:Pg):Prop where
 f12:pg.fs 12=some aEj
 f17:pg.fs 17=some aEh
 f19:pg.fs 19=some aEf
 f34:pg.fs 34=some aDT
 f35:pg.fs 35=some aDS
 f261:pg.fs 261=some RN
 f262:pg.fs 262=some RM
 f263:pg.fs 263=some RL
 f265:pg.fs 265=some RK
 f276:pg.fs 276=some RH
 f294:pg.fs 294=some RG
 f616:pg.fs 616=some RD
 f619:pg.fs 619=some J1
 f626:pg.fs 626=some RC
 f630:pg.fs 630=some J0
 f638:pg.fs 638=some DK
 f661:pg.fs 661=some DJ
 f666:pg.fs 666=some RA
 f668:pg.fs 668=some Q9
 f671:pg.fs 671=some G1
 f680:pg.fs 680=some JZ
 f681:pg.fs 681=some Q7
 f682:pg.fs 682=some Q6
 f685:pg.fs 685=some Q4
section
variable{pg:Pg}
theorem aKg(C:Go.Tev.Code pg)(D:Code3 pg)(M:CodeAc pg)(N:CodeAb pg)(A:Ora pg)(O:aKO pg)(h662:Ret pg 662 [] (.bool true))(k:aA)(hk:KOK k)(p:dK)(nl cl:Bool)(ds:List Val)(hb:ds.length<=big):Ret pg 661 [k.av,p.av,.sl nl (ds.map Val.av) cl] (.bool true):=by
 have h77:∀s:Str,Ret pg 77 [.str s.bs] (.bool (iQ s.bs)):=λs=>c77 D.f77 D.f114 D.f115 s.bs s.ok;have h54:∀l:Lin,Ret pg 54 [l.av] (.bool (fU l)):=c54 D.f54 h77 D.f90;have h10:=aMx C D k hk;have h34:=λl nl cl ds hb=>aQJ N.f34 h54 l nl cl ds hb;have h35:=λt=>c35 N.f35 h34 t nl cl ds hb;have h17:=c17 N.f17 k h10 nl cl ds hb (λl=>h34 l nl cl ds hb) h35;have h276:gT k->∀(nl cl:Bool)(at_ v:Nat),at_<k.aSf.es.length->v<k.aSe.es.length->Ret pg 276 [k.av,.sl nl ((aD k).map bO) cl,.int .i64 at_,.int .i64 v] (.bool (kS k at_ v)):=
  λok nl cl at_ v h1 h2=>c276 N.f276 (c88 D.f88 (c121 D.f121 D.f162 D.f191)) (λp hp hs v=>c294 N.f294 (c37 D.f37 D.f55) p hp hs v)
   (λv rank p hp=>c261 N.f261 (aMo D.f122 D.f163) (c162 D.f162 D.f191) v rank p hp) k ok (YQ hk) nl cl at_ v h1 h2
 have h265:=λat_ v=>c265 N.f265 k h10 h276 at_ v;have h12:=λat_=>c12 N.f12 k h10 at_;have h263:=c263 N.f263 k h10 h276;have h619:=c619 N.f619 N.f630 N.f638 k nl cl ds p h17 h10 h265 h12;have h616:=c616 N.f616 k nl cl ds h17 h263 (λnl cl es hb s=>c626 N.f626 N.f638 nl cl es hb s) h12;have h19:=c19 N.f19 k nl cl ds h17 h12;obtain⟨h9,h16,h11,h676,h275⟩:=aKf C M A k hk nl cl ds hb;have h28:=aEE C A k hk.nl hk.ks;have h262:=c262 N.f262 k h9 h275;have h677:=c677 M.f677 k;have e1:=λq:dK=>c680 N.f680 M.f694 k h677 nl cl ds q (h676 q) h11 681 [] rfl kM (λ_ _=>rfl) (λ_ _=>rfl) (λhp0 hpk h v es ha ho hb hg=>c681 N.f681 q.pk hpk h ha v es ho hb hg);have e2:=c680 N.f680 M.f694 k h677 nl cl ds p (h676 p) h11 682 [.fp p.av] (by simp[treeL,AV.tree,dK.avc,j0 p.P,cH (f:=aH) (λ_=>rfl) p.C]) (λes=>fM es p.pk.toNat) (λ_ _=>rfl) (λ_ _=>rfl) (λhp0 hpk h v es ha ho hb hg=>c682 O N.f682 p hp0 hpk h ha v es ho hb hg)
 exact c661 N.f661 k nl cl ds p h662 (c663 M.f663 k (aSa C k hk) p nl cl ds) h616 (λq=>c666 N.f666 k nl cl ds q (e1 q)) (c668 N.f668 k nl cl ds p e2) h619
  (c671 N.f671 M.f694 k h677 (c685 N.f685 k) nl cl ds (c684 M.f684 k h28) h16 h11 h262) h19 h17 h263
end
end
end Go.Tev
