import Derived.Test.YtmcadllokkmeiaaGreatDoorMBH
import Derived.Test.YtmcadllokkmeiaaGreatDoorMBC
import Derived.Test.YtmcadllokkmeiaaGreatDoorMBD
set_option linter.all false
section
namespace Go.Tev
def eJ(l:List Cl):List AV:=l.flatMap fun c=>[.int .i64 c.t,.int .i64 c.a,.int .i64 c.b,.int .i64 c.w]
theorem qY:∀l:List Cl,aR 4 true (l.map Cl.av)=some (eJ l)
 |[]=>rfl
 |c::r=>by
  have:=qY r
  simp only[List.map_cons,aR,this]
  rfl
theorem fA:∀l:List Cl,(eJ l).length=l.length*4
 |[]=>rfl
 |c::r=>by
  have:=fA r
  simp only[eJ,List.flatMap_cons,List.length_append,List.length_cons]at this ⊢
  simp only[List.length_nil]
  omega
theorem j9(d:List Cl)(c:Cl)(r:List Cl):eJ (d++c::r)=eJ d++([AV.int .i64 c.t,.int .i64 c.a,.int .i64 c.b,.int .i64 c.w]++eJ r):=by simp[eJ]
theorem YF(d:List Cl)(c:Cl)(r:List Cl)(n:Nat)(hn:n=d.length):(eJ (d++c::r))[0+n*4+3]?=some (.int .i64 c.w):=by
 subst hn
 rw[j9,List.getElem?_append_right (by rw[fA];omega),fA,show 0+d.length*4+3-d.length*4=3 from by omega]
 rfl
theorem OA(d:List Cl)(c:Cl)(r:List Cl)(x:Int)(n:Nat)(hn:n=d.length):List.take (0+n*4+3) (eJ (d++c::r))++[AV.int .i64 x]++List.drop (0+n*4+3+1) (eJ (d++c::r))=eJ (d++⟨c.t,c.a,c.b,x⟩::r):=by
 subst hn
 have hl:=fA d
 rw[j9,j9,List.take_append,List.drop_append,hl,List.take_of_length_le (by omega),List.drop_eq_nil_of_le (by omega),show 0+d.length*4+3-d.length*4=3 from by omega,show 0+d.length*4+3+1-d.length*4=4 from by omega]
 simp
theorem OB(d:List Cl)(c:Cl)(r:List Cl)(n:Nat)(hn:n=d.length):List.take 4 (List.drop (0+n*4) (eJ (d++c::r)))=[AV.int .i64 c.t,.int .i64 c.a,.int .i64 c.b,.int .i64 c.w]:=by
 subst hn
 have hl:=fA d
 rw[j9,List.drop_append,hl,List.drop_eq_nil_of_le (by omega),show 0+d.length*4-d.length*4=0 from by omega]
 rfl
theorem lJ:∀(ks:List Nat)(h:Hp),∀x∈aW h ks,x.k∈ks
 |[],_,x,hx=>by simp[aW]at hx
 |k::ks,h,x,hx=>by
  unfold aW at hx
  split at hx
  ·rcases List.mem_cons.1 hx with rfl|hx
   ·simp
   ·exact List.mem_cons_of_mem _ (lJ ks _ x hx)
  ·exact List.mem_cons_of_mem _ (lJ ks _ x hx)
theorem yP{h:Hp}{s:Nat}{keys:List Nat}{b:Bool}{q:Nat}(hq:q ∉ keys):(Eff.app h (.pat (s::keys) ((if b then [] else aW h keys)++[]))).get q=h.get q:=by
 show (bH h _).get q=_
 refine gW _ _ ?_
 intro hm
 obtain⟨x,hx,rfl⟩:=List.mem_map.1 hm
 rw[List.append_nil]at hx
 split at hx
 ·simp at hx
 ·exact hq (lJ _ _ x hx)
theorem DG{h:Hp}{k e esz:Nat}{ag:Bool}{es cs:List AV}(he:∀x∈es,El esz ag x)(hg:h.get k=some (e,.blk cs esz ag false false))(hu:aR esz ag es=some cs)(d n:Nat)(hn:n=es.length):Tev.snap (d+2) h (.rf k e 0 n n)=some (.sl false es false,[k]):=by
 subst hn
 obtain⟨cs',h1,h2,h3,h4⟩:=bW he
 rw[hu]at h1;cases h1
 have h5:=h4 []
 rw[List.append_nil]at h5
 have ht:treeL es=true:=by
  clear h2 h4 h5 hu hg
  induction es with
  |nil=>rfl
  |cons x r ih=>simp only[treeL,Bool.and_eq_true];exact⟨(he x (by simp)).tree,ih (fun y hy=>he y (List.mem_cons_of_mem _ hy))⟩
 have h6:bJ (Tev.snap (d+1) h) es=some (es,[]):=cG d h ht
 rw[dA];simp[hg,h5,h6,AV.tree]
theorem El.spl(l:List Sp):∀x∈l.map bV,El 2 true x:=by
 intro x hx
 obtain⟨c,_,rfl⟩:=List.mem_map.1 hx
 exact⟨rfl,rfl,rfl⟩
section
variable{pg:Pg}
set_option maxRecDepth 100000 in
set_option maxHeartbeats 16000000 in
theorem c659(hf:pg.fs 659=some cf659)(h662:Ret pg 662 [] (.bool true))(k:aA)(p:cN)(nl cl:Bool)(ds:List Val)(hds:ds.length<=big)
  (h663:Ret pg 663 [k.av,p.av,.sl nl (ds.map Val.av) cl] (.bool (qL k&&decide ((ds.length:Int)<=13)&&decide ((p.P.length:Int)<=20)&&decide ((p.C.length:Int)<=20))))
  (h664a:∀h:Hp,(∀q,1179648<=q->h.get q=none)->fB pg 664 [k.av,p.av,.sl nl (ds.map Val.av) cl] 1179648 h (fun r h'=>jR k ds p (fun v es=>Own h' 1179689 4 true v es) r/\∀q,q<1179648->h'.get q=h.get q))
  (h664b:∀q:cN,bR pg 664 [k.av,q.av,.sl nl (ds.map Val.av) cl] (jR k ds q (fun v es=>∃nl cl,v = .sl nl es cl))) :
  Ret pg 659 [k.av,p.av,.sl nl (ds.map Val.av) cl] (.bool true):=by
 have tlP:=kY p.P
 simp only[aA.avc,cN.avc]at h663 h664a
 rw[aA.avc,cN.avc]
 refine Ret.ofX hf ?_
 unfold cf659
 simp only[go_sem,seval]
 refine aB h662 rfl rfl ?_
 simp only[go_sem,seval]
 refine aB h663 (by simp only[tlP,go_sem,seval]) rfl ?_
 cases hsm:qL k&&decide ((ds.length:Int)<=13)&&decide ((p.P.length:Int)<=20)&&decide ((p.C.length:Int)<=20)
 ·simp only[go_sem,seval]
 simp only[Bool.and_eq_true,decide_eq_true_eq]at hsm
 obtain⟨⟨⟨hfew,hd13⟩,hP20⟩,hC20⟩:=hsm
 simp only[go_sem,seval]
 refine qV (.inl rfl) rfl (h664a _ (fun q hq=>?_)) ?_
 ·simp only[aD,sJ]
  rw[if_neg (by omega),if_neg (by omega)]
 rintro r h' ⟨hR,hlow⟩
 have g1:=hlow 1 (by decide)
 have g5:=hlow 5 (by decide)
 have g21:=hlow 21 (by decide)
 simp only[aD,sJ,seval]at g1 g5 g21
 unfold jR at hR
 by_cases hx:eF k ds p=0
 case neg=>
  rw[if_neg hx]at hR
  have b0:decide (eF k ds p=0)=false:=by simp[hx]
  subst hR
  simp only[b0,go_sem,seval]
 rw[if_pos hx]at hR
 obtain⟨v,rfl,ho⟩:=hR
 have hcx:eA k ds=0:=by
  by_cases h:eA k ds=0
  ·exact h
  ·rw[eF,if_neg h]at hx;exact absurd hx h
 have hfb:fJ k ds p=true:=by
  rw[eF,if_pos hcx]at hx
  cases hb:fJ k ds p
  ·rw[hb]at hx;simp at hx
  ·rfl
 have hfb':=hfb
 simp only[fJ,Bool.and_eq_true,decide_eq_true_eq,Bool.not_eq_true',decide_eq_false_iff_not]at hfb'
 obtain⟨⟨⟨⟨b1,b2⟩,b3⟩,b4⟩,b5⟩:=hfb'
 have hw1:∀(at_ w:Int),w∈cQ at_ (aF k)->0<=(plc p.P w.toNat).1/\(plc p.P w.toNat).1<=1000000:=fun at_ w hw=>by
  have:=FE hcx hfb at_ w hw
  omega
 have hmod0:=Int.tmod_nonneg (a:=p.pk) 900 (by omega)
 have hmod1:=Int.tmod_lt_of_pos p.pk (show (0:Int)<900 by decide)
 obtain⟨m,hm⟩:∃m:Int,m=(ds.length:Int)*37+p.pk.tmod 900:=⟨_,rfl⟩
 have hm0:0<=m:=by omega
 have hm1:m<=2000:=by omega
 have wm1:wr .i64 ((ds.length:Int)*37)=(ds.length:Int)*37:=aX (by omega) (by omega)
 have wm2:wr .i64 ((ds.length:Int)*37+p.pk.tmod 900)=m:=by rw[hm];exact aX (by omega) (by omega)
 have wm3:wr .i64 (p.pk+m)=p.pk+m:=aX (by omega) (by omega)
 have n21:h'.next 21=0:=iE g21
 have hcw:=N9 hw1 (List.range (k.list.es.length+2))
 have hcm:=D0 (m:=m) (fun at_ w hw=>(hw1 at_ w hw).1) (List.range (k.list.es.length+2))
 have hPb:=p.bP
 clear hmod0 hmod1
 simp only[g1,g5,wm1,wm2,wm3,n21,List.length_map,go_sem,seval]
 refine bI p.P (fun d r env hp=>env=cf659E0 (.sl nl (ds.map Val.av) cl) (.pt 1 0 0) (.pt 5 0 0) v (.int .i64 m) (.pt 21 0 0) (.int .i64 d.length)/\hp.get 1=some (0,.blk k.cells 6 true true false)/\hp.get 5=some (0,.blk p.cells 3 true true false)/\hp.get 1179689=h'.get 1179689 /\
  ∃v2,hp.get 21=some (0,.blk [v2,.sl p.n2 (p.C.map aH) p.c2,.int .i64 (p.pk+m)] 3 true true false)/\Own hp 29 2 true v2 ((d.map (mvP m)).map bV)) ?_ ?_ ?_
 ·exact⟨rfl,by simp only[go_sem,seval];exact g1,by simp only[go_sem,seval];exact g5,by simp only[go_sem,seval],.sl true [] true,by simp only[go_sem,seval],Own.nil _ _ _ _ _ _ rfl⟩
 ·rintro env hp ⟨rfl,g1,g5,gL,v2,g21,ho2⟩
  have hdm:p.P.map (mvP m)=p.P.map (mvP m):=rfl
  obtain⟨nq,cq,keys,hms,hk29⟩:∃nq cq keys,bJ (snap depth hp) [k.av,.agg [v2,.sl p.n2 (p.C.map aH) p.c2,.int .i64 (p.pk+m)],.sl nl (ds.map Val.av) cl] =
    some ([k.av,.agg [.sl nq ((p.P.map (mvP m)).map bV) cq,.sl p.n2 (p.C.map aH) p.c2,.int .i64 (p.pk+m)],.sl nl (ds.map Val.av) cl],keys)/\∀q∈keys,q=29:=by
   rw[aA.avc]
   rcases ho2 with ⟨hnil,nl',cl',rfl,_⟩|⟨e,cs,rfl,hg,hu⟩
   ·refine⟨nl',cl',[],?_,by simp⟩
    rw[hnil]
    exact cG 63 hp (by simp only[go_sem,seval])
   ·have hsn:Tev.snap 63 hp _=_:=DG (El.spl _) hg hu 61 _ rfl
    simp only[List.length_map]at hsn
    refine⟨false,false,[29],?_,by simp⟩
    simp only[depth,bS,aV,dA,↓hsn,go_sem,seval]
  obtain⟨Q,hQ⟩:∃Q:cN,Q=⟨p.P.map (mvP m),p.C,p.pk+m,nq,cq,p.n2,p.c2,by rw[List.length_map];exact p.bP,p.bC⟩:=⟨_,rfl⟩
  obtain⟨r2,a2,s2⟩:=h664b Q
  have hfq:=HW (q:=Q) hm0 hfb (by rw[hQ]) (by rw[hQ]) (by rw[hQ])
  have hQk:Q.pk=p.pk+m:=by rw[hQ]
  have hQa:Q.av = .agg [.sl nq ((p.P.map (mvP m)).map bV) cq,.sl p.n2 (p.C.map aH) p.c2,.int .i64 (p.pk+m)]:=by rw[hQ];rfl
  have hQc:I3 k Q.P=(I3 k p.P).map (mvC m):=by rw[hQ];exact hcm
  rw[hQa]at a2
  rw[hQk]at hfq
  have hk1:∀q,q≠29->∀b:Bool,(Eff.app hp (.pat (33::keys) ((if b then [] else aW hp keys)++[]))).get q=hp.get q:=fun q hq b=>yP (fun hm=>hq (hk29 q hm))
  rw[aA.avc]at hms a2
  have g1':=g1
  simp only[aA.cells,Sl.av]at g1
  simp only[cN.cells]at g5
  unfold jR at s2
  simp only[cf659L0,cf659E0,n9,g1,g5,g21,go_sem,seval]
  cases c9:decide (1000000<p.pk+m)
  case true=>
   rw[c9]at hfq
   have hE:eF k ds Q=21:=by rw[eF,if_pos hcx,hfq];rfl
   rw[hE,if_neg (by decide)]at s2
   subst s2
   refine cK a2 hms rfl ?_
   show XR _ _ _ _ _ _
   generalize hH:Eff.app hp _=H
   have k21:=(show H.get 21=hp.get 21 by rw[<-hH];exact hk1 21 (by decide) _).trans g21
   simp only[c9,k21,go_sem,seval]
  rw[c9]at hfq
  have hE:eF k ds Q=0:=by rw[eF,if_pos hcx,hfq];rfl
  rw[hE,if_pos rfl]at s2
  obtain⟨v3,rfl,nl3,cl3,rfl⟩:=s2
  rw[hQc]at a2
  refine cK a2 hms rfl ?_
  show XR _ _ _ _ _ _
  generalize hH:Eff.app hp _=H
  have kL:=(show H.get 1179689=hp.get 1179689 by rw[<-hH];exact hk1 1179689 (by decide) _).trans gL
  have ho3:=ho.mono kL
  clear hH hk1 g21 gL g1 g5 g1' ho2
  generalize hL:I3 k p.P=L0 at *
  have hLw:∀c∈L0,0<=c.w/\c.w<=1000000:=fun c hc=>hcw c (by rw[<-hL]at hc;exact hc)
  have hLb:L0.length<=big:=by
   have hn:=HZ hfew
   obtain⟨_,hsl,_⟩:=sP (ds:=ds) (eN (iO hcx).1)
   have:=pP (k:=k) (n:=20) (fun at_=>by have:=(j4 at_ _ (aF k) rfl).2;omega) p.P (List.range (k.list.es.length+2))
   rw[List.length_range]at this
   rw[<-hL]
   simp only[I3,big]
   omega
  rcases ho3 with ⟨hnil,nl4,cl4,rfl,_⟩|⟨e,cs,rfl,hg,hu⟩
  ·have hL0:L0=[]:=by simpa using hnil
   subst hL0
   simp only[go_sem,seval]
   refine bI ([]:List Cl) (fun d r env hp=>env=cf659E1 (.sl nl4 [] cl4) (.int .i64 m) (.sl nl3 [] cl3) (.int .i64 d.length)) ?_ ?_ ?_
   ·rfl
   ·rintro env hp rfl
    simp only[cf659L1,cf659E1,go_sem,seval]
   ·rintro d x r env hp hes
    exact absurd hes (by simp)
  ·rw[qY]at hu
   cases hu
   have e0:decide ((L0.length:Int)=(L0.length:Int))=true:=by simp
   simp only[List.length_map,go_sem,seval]
   refine bI L0 (fun d r env hp=>env=cf659E1 (.rf 1179689 e 0 L0.length L0.length) (.int .i64 m) (.sl nl3 ((L0.map (mvC m)).map Cl.av) cl3) (.int .i64 d.length)/\hp.get 1179689=some (e,.blk (eJ (d.map (mvC m)++r)) 4 true false false)) ?_ ?_ ?_
   ·exact⟨rfl,hg⟩
   ·rintro env hp ⟨rfl,g⟩
    simp only[cf659L1,cf659E1,n9,go_sem,seval]
   ·rintro d c r env hp hes ⟨rfl,g⟩
    obtain⟨hget,f1,f2,ew⟩:=mF hes hLb
    have hcr:=hLw c (by rw[hes];simp)
    have hi0:(0<=(d.length:Int))=True:=eq_true (by omega)
    have wc:wr .i64 (c.w+m)=c.w+m:=aX (by omega) (by omega)
    have hdl:d.length=(d.map (mvC m)).length:=by simp
    have a1:=YF (d.map (mvC m)) c r d.length hdl
    have a2:=OA (d.map (mvC m)) c r (c.w+m) d.length hdl
    have a3:=OB (d.map (mvC m)) ⟨c.t,c.a,c.b,c.w+m⟩ r d.length hdl
    have hlen:(eJ (d.map (mvC m)++c::r)).length=L0.length*4:=by rw[fA,hes];simp
    have hlen2:(eJ (d.map (mvC m)++⟨c.t,c.a,c.b,c.w+m⟩::r)).length=L0.length*4:=by rw[fA,hes];simp
    have hd2:(d++[c]).map (mvC m)++r=d.map (mvC m)++⟨c.t,c.a,c.b,c.w+m⟩::r:=by simp[mvC]
    have hl0:d.length<L0.length:=(List.getElem?_eq_some_iff.1 hget).1
    have i1:(0+d.length*4+3+1<=L0.length*4)=True:=eq_true (by omega)
    have i2:(0+d.length*4+4<=L0.length*4)=True:=eq_true (by omega)
    simp only[cf659L1,cf659E1,f1,f2,hget,ew,hi0,wc,g,a1,a2,a3,hlen,hlen2,i1,i2,hd2,Cl.av,mvC,List.getElem?_map,List.length_map,go_sem,seval]
    refine⟨by kernel_rfl,?_⟩
    first|rfl|exact⟨rfl,rfl⟩
 ·rintro d x r env hp hes ⟨rfl,g1,g5,gL,v2,g21,ho2⟩
  obtain⟨hget,f1,f2,ew⟩:=mF hes hPb
  have hxb:0<=x.1->x.1<=1000000:=fun h0=>by
   have:=pA (sz:=iR k ds) (sp:=aF k) (pk:=p.pk) p.P 0 d.length b5 (List.getElem?_eq_some_iff.1 hget).1
   rw[Nat.zero_add,oZ hget]at this
   have hs:=sZ hcx d.length
   simp only[okP,Bool.and_eq_true,decide_eq_true_eq]at this
   obtain⟨q1,q2⟩:=this
   split at q2
   ·simp only[decide_eq_true_eq]at q2;omega
   ·simp only[Bool.and_eq_true,decide_eq_true_eq]at q2;omega
  have hl:d.length<=big:=by have:=congrArg List.length hes;simp only[List.length_append,List.length_cons]at this;omega
  have g5':=g5
  simp only[cN.cells]at g5
  have hmap:(d++[x]).map (mvP m)=d.map (mvP m)++[mvP m x]:=by simp
  cases c0:decide (0<=x.1)
  ·have hmv:mvP m x=x:=by rw[mvP,if_neg (by simpa using c0)]
   simp only[cf659L0,cf659E0,f1,f2,hget,g5,g21,bV,c0,go_sem,seval]
   generalize hH2:Hp.put (Hp.put hp 25 _ _) 25 _ _=H2
   have hot:∀q,q≠25->H2.get q=hp.get q:=fun q hq=>by rw[<-hH2];simp only[aD,if_neg (Ne.symm hq)]
   refine cZ (kb:=0) (s:=29) (ho2.mono (hot _ (by decide))) (El.spl _) (xs:=[bV x]) (by intro z hz;simp at hz;subst hz;exact⟨rfl,rfl,rfl⟩) (by simp only[List.length_map,List.length_singleton];simp only[big]at hl;omega) (by decide) ?_
   intro v' rd pa p1 hk1 hpa
   have hh:∀q,q≠29->q≠25->(Eff.app H2 (.pat rd pa)).get q=hp.get q:=fun q h0 h1=>(hk1 q h0).trans (hot q h1)
   generalize Eff.app H2 (Eff.pat rd pa)=H3 at p1 hh ⊢
   clear hk1 hot hH2
   have k21:=(hh 21 (by decide) (by decide)).trans g21
   have p2:Own H3 29 2 true v' (((d++[x]).map (mvP m)).map bV):=by rw[hmap,List.map_append,hmv];exact p1
   obtain⟨z1,z2,z3⟩:=p2.one
   simp only[k21,ew,z1,z2,z3,go_sem,seval]
   exact⟨rfl,(hh 1 (by decide) (by decide)).trans g1,(hh 5 (by decide) (by decide)).trans g5',(hh 1179689 (by decide) (by decide)).trans gL,v',rfl,p2.mono (by simp only[go_sem,seval])⟩
  ·have hmv:mvP m x=(x.1+m,x.2):=by rw[mvP,if_pos (by simpa using c0)]
   have x0:0<=x.1:=by simpa using c0
   have hx9:=hxb x0
   have wx:wr .i64 (x.1+m)=x.1+m:=aX (by omega) (by omega)
   simp only[cf659L0,cf659E0,f1,f2,hget,g5,g21,bV,c0,wx,go_sem,seval]
   generalize hH2:Hp.put (Hp.put (Hp.put hp 25 _ _) 25 _ _) 25 _ _=H2
   have hot:∀q,q≠25->H2.get q=hp.get q:=fun q hq=>by rw[<-hH2];simp only[aD,if_neg (Ne.symm hq)]
   refine cZ (kb:=0) (s:=29) (ho2.mono (hot _ (by decide))) (El.spl _) (xs:=[bV ((x.1+m,x.2):Sp)]) (by intro z hz;simp at hz;subst hz;exact⟨rfl,rfl,rfl⟩) (by simp only[List.length_map,List.length_singleton];simp only[big]at hl;omega) (by decide) ?_
   intro v' rd pa p1 hk1 hpa
   have hh:∀q,q≠29->q≠25->(Eff.app H2 (.pat rd pa)).get q=hp.get q:=fun q h0 h1=>(hk1 q h0).trans (hot q h1)
   generalize Eff.app H2 (Eff.pat rd pa)=H3 at p1 hh ⊢
   clear hk1 hot hH2
   have k21:=(hh 21 (by decide) (by decide)).trans g21
   have p2:Own H3 29 2 true v' (((d++[x]).map (mvP m)).map bV):=by rw[hmap,List.map_append,hmv];exact p1
   obtain⟨z1,z2,z3⟩:=p2.one
   simp only[k21,ew,z1,z2,z3,go_sem,seval]
   exact⟨rfl,(hh 1 (by decide) (by decide)).trans g1,(hh 5 (by decide) (by decide)).trans g5',(hh 1179689 (by decide) (by decide)).trans gL,v',rfl,p2.mono (by simp only[go_sem,seval])⟩
end
end Go.Tev
end
section
namespace Go.Tev
structure CodeAm(pg:Pg):Prop where
 f11:pg.fs 11=some cf11
 f16:pg.fs 16=some cf16
 f32:pg.fs 32=some cf32
 f33:pg.fs 33=some cf33
 f52:pg.fs 52=some cf52
 f53:pg.fs 53=some cf53
 f260:pg.fs 260=some cf260
 f264:pg.fs 264=some cf264
 f272:pg.fs 272=some cf272
 f273:pg.fs 273=some cf273
 f274:pg.fs 274=some cf274
 f275:pg.fs 275=some cf275
 f292:pg.fs 292=some cf292
 f293:pg.fs 293=some cf293
 f316:pg.fs 316=some cf316
 f659:pg.fs 659=some cf659
 f663:pg.fs 663=some cf663
 f664:pg.fs 664=some cf664
 f676:pg.fs 676=some cf676
 f677:pg.fs 677=some cf677
 f684:pg.fs 684=some cf684
 f694:pg.fs 694=some cf694
section
variable{pg:Pg}
theorem bR.ofH{f:Nat}{vs:List AV}{P:AV->Prop}(hr:fB pg f vs 0 [] (fun r h'=>∃r',Tev.conv h' r=some r'/\P r')):bR pg f vs P:=by
 obtain⟨r,h',⟨n,e⟩,r',hc,hp⟩:=hr
 exact⟨r',⟨n,by simp only[bA,e,hc]⟩,hp⟩
theorem IZ{h:Hp}{k0:Nat}{v:AV}{es:List AV}(o:Own h k0 4 true v es)(he:∀x∈es,El 4 true x)(n:Int):∃nl cl,Tev.conv h (.tup [v,.int .i64 n])=some (.tup [.sl nl es cl,.int .i64 n]):=by
 rcases o with ⟨rfl,nl,cl,rfl,_⟩|⟨e,cs,rfl,hg,hu⟩
 ·exact⟨nl,cl,rfl⟩
 ·have hsn:Tev.snap 63 h _=_:=DG he hg hu 61 _ rfl
  refine⟨false,false,?_⟩
  simp only[Tev.conv,depth,bS,aV,dA,↓hsn,go_sem,seval]
theorem OL(C:Go.Tev.Code pg)(M:CodeAm pg)(A:Ora pg)(k:aA)(hk:KOK k)(nl cl:Bool)(ds:List Val)(hb:ds.length<=big) :
  (∀(p:cN)(h:Hp),(∀q,1179648<=q->h.get q=none)->fB pg 664 [k.av,p.av,.sl nl (ds.map Val.av) cl] 1179648 h (fun r h'=>jR k ds p (fun v es=>Own h' 1179689 4 true v es) r/\∀q,q<1179648->h'.get q=h.get q)) /\
  (∀p:cN,bR pg 664 [k.av,p.av,.sl nl (ds.map Val.av) cl] (jR k ds p (fun v es=>∃nl cl,v = .sl nl es cl))):=by
 have B:=D2 A C.f57 C.f91 C.f126 C.f108 C.f94 C.f132 C.f133 C.f134 C.f171
 have h51:∀l:Lin,Ret pg 51 [l.av] (.bool (iM l)):=c51 C.f51 C.f89 B.name
 have h9:=ZZ C A k hk
 have h28:=L3 C A k hk.nl hk.ks
 have h32:=fun l nl cl ds hb=>YR M.f32 h51 M.f52 M.f53 l nl cl ds hb
 have h33:=fun t=>YQ M.f33 h32 t nl cl ds hb
 have h16:=ZC M.f16 k h9 nl cl ds hb (fun l=>h32 l nl cl ds hb) h33
 have hkk:∀q∈k.list.es,q.body.ok/\q.index.ok/\q.body.sz+q.index.sz+1<=big:=fun q hq=>by
  obtain⟨h1,h2,_,_⟩:=hk.ks q hq
  have:=hk.sz q hq
  exact⟨h1,h2,by omega⟩
 have h275:lN k->∀(nl cl:Bool)(at_ v:Nat),at_<k.list.es.length->v<k.values.es.length->Ret pg 275 [k.av,.sl nl ((aF k).map bV) cl,.int .i64 at_,.int .i64 v] (.bool (rY k at_ v)):=
  fun ok nl cl at_ v h1 h2=>c275 M.f275 (c65 C.f65 (c104 C.f104 C.f67 C.f142 C.f106)) (fun p hp hs=>c48 (uT A) C.f48 C.f74 p hp hs) (fun nl cl es hb v=>c293 M.f293 M.f316 nl cl es hb v)
   (fun v rank p hp=>c260 A M.f260 M.f272 M.f273 M.f274 M.f292 C.f108 v rank p hp) k ok hkk nl cl at_ v h1 h2
 have h264:=fun at_ v=>c264 M.f264 k h9 h275 at_ v
 have h11:=fun at_=>c11 M.f11 k h9 at_
 have h684:=c684 M.f684 k h28
 have h676:=fun p=>c676 M.f676 k nl cl ds p h684 h16 h9
 have h677:=c677 M.f677 k
 refine⟨fun p h hfr=>OD M.f664 M.f694 k h677 nl cl ds p (h676 p) h264 h11 h hfr,fun p=>bR.ofH ?_⟩
 refine fB.mono (OE M.f664 M.f694 k h677 nl cl ds p (h676 p) h264 h11 [] (fun _ _=>rfl)) ?_
 rintro r h' ⟨hR,_⟩
 unfold jR at hR ⊢
 by_cases hx:eF k ds p=0
 ·rw[if_pos hx]at hR
  obtain⟨v,rfl,ho⟩:=hR
  obtain⟨nl',cl',hc⟩:=IZ ho (El.cls _) 0
  exact⟨_,hc,by rw[if_pos hx];exact⟨_,rfl,nl',cl',rfl⟩⟩
 ·rw[if_neg hx]at hR
  subst hR
  exact⟨_,rfl,by rw[if_neg hx]⟩
theorem OM(C:Go.Tev.Code pg)(M:CodeAm pg)(A:Ora pg)(h662:Ret pg 662 [] (.bool true))(k:aA)(hk:KOK k)(p:cN)(nl cl:Bool)(ds:List Val)(hb:ds.length<=big):Ret pg 659 [k.av,p.av,.sl nl (ds.map Val.av) cl] (.bool true):=by
 obtain⟨a1,a2⟩:=OL C M A k hk nl cl ds hb
 exact c659 M.f659 h662 k p nl cl ds hb (c663 M.f663 k (Z0 C k hk) p nl cl ds) (a1 p) a2
end
end Go.Tev
end
