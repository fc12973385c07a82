import Derived.Test.YtmcadllokkmeiaaGreatDoorSBH
import Derived.Test.YtmcadllokkmeiaaGreatDoorSBC
import Derived.Test.YtmcadllokkmeiaaGreatDoorSBD
import Derived.Test.YtmcadllokkmeiaaGreatDoorSBG
set_option linter.all false
section
namespace Go.Tev
theorem NO{h:Hp}{k e esz:Nat}{ag:Bool}{es cs:List AV}(he:∀x∈es,El esz ag x)(hg:h.get k=some (e,.blk cs esz ag false false))(hu:bB esz ag es=some cs)(d n:Nat)(hn:n=es.length):Tev.snap (d+2) h (.rf k e 0 n n)=some (.sl false es false,[k]):=by
 subst hn
 obtain⟨cs',h1,h2,h3,h4⟩:=cK he
 rw[hu]at h1;cases h1
 have h5:=h4 []
 rw[List.append_nil]at h5
 have ht:treeL es=true:=by
  clear h2 h4 h5 hu hg
  induction es with
  |nil=>rfl
  |cons x r ih=>simp only[treeL,Bool.and_eq_true];exact⟨(he x (by simp)).tree,ih (fun y hy=>he y (List.mem_cons_of_mem _ hy))⟩
 have h6:cE (Tev.snap (d+1) h) es=some (es,[]):=d6 d h ht
 rw[eI];simp[hg,h5,h6,AV.tree]
section
variable{pg:Pg}
end
end Go.Tev
end
section
namespace Go.Tev
section
variable{pg:Pg}
theorem bL.ofH{f:Nat}{vs:List AV}{P:AV->Prop}(hr:gT pg f vs 0 [] (fun r h'=>∃r',Tev.conv h' r=some r'/\P r')):bL pg f vs P:=by
 obtain⟨r,h',⟨n,e⟩,r',hc,hp⟩:=hr
 exact⟨r',⟨n,by simp only[bW,e,hc]⟩,hp⟩
theorem MF{h:Hp}{k0:Nat}{v:AV}{es:List AV}(o:Own h k0 4 true v es)(he:∀x∈es,El 4 true x)(n:Int):∃nl cl,Tev.conv h (.tup [v,.int .i64 n])=some (.tup [.sl nl es cl,.int .i64 n]):=by
 rcases o with ⟨rfl,nl,cl,rfl,_⟩|⟨e,cs,rfl,hg,hu⟩
 ·exact⟨nl,cl,rfl⟩
 ·have hsn:Tev.snap 63 h _=_:=NO he hg hu 61 _ rfl
  refine⟨false,false,?_⟩
  simp only[Tev.conv,depth,cD,bA,eI,↓hsn,go_sem,seval]
end
end Go.Tev
end
section
namespace Go.Tev
structure CodeAc(pg:Pg):Prop where
 f11:pg.fs 11=some cf11
 f16:pg.fs 16=some cf16
 f32:pg.fs 32=some cf32
 f33:pg.fs 33=some cf33
 f52:pg.fs 52=some cf52
 f53:pg.fs 53=some cf53
 f260:pg.fs 260=some cf260
 f264:pg.fs 264=some cf264
 f272:pg.fs 272=some cf272
 f273:pg.fs 273=some cf273
 f274:pg.fs 274=some cf274
 f275:pg.fs 275=some cf275
 f292:pg.fs 292=some cf292
 f293:pg.fs 293=some cf293
 f316:pg.fs 316=some cf316
 f663:pg.fs 663=some cf663
 f676:pg.fs 676=some cf676
 f677:pg.fs 677=some cf677
 f684:pg.fs 684=some cf684
 f694:pg.fs 694=some cf694
section
variable{pg:Pg}
theorem G6{k:aA}(hk:KOK k):∀q∈k.list.es,q.body.ok/\q.index.ok/\q.body.sz+q.index.sz+1<=big:=fun q hq=>by
 obtain⟨h1,h2,_,_⟩:=hk.ks q hq
 have:=hk.sz q hq
 exact⟨h1,h2,by omega⟩
theorem R8(C:Go.Tev.Code pg)(M:CodeAc pg)(A:Ora pg)(k:aA)(hk:KOK k)(nl cl:Bool)(ds:List Val)(hb:ds.length<=big) :
  bL pg 9 [k.av] (iY k)/\Ret pg 16 [k.av,.sl nl (ds.map Val.av) cl] (gJ k ds)/\(∀at_:Int,bL pg 11 [k.av,.int .i64 at_] (kD k at_))/\(∀p:eN,Ret pg 676 [k.av,p.av,.sl nl (ds.map Val.av) cl] (.int .i64 (kF k ds p))) /\
  (kK k->∀(nl cl:Bool)(at_ v:Nat),at_<k.list.es.length->v<k.values.es.length->Ret pg 275 [k.av,.sl nl ((aF k).map bS) cl,.int .i64 at_,.int .i64 v] (.bool (qY k at_ v))):=by
 have B:=HI A C.f57 C.f91 C.f126 C.f108 C.f94 C.f132 C.f133 C.f134 C.f171
 have h51:∀l:Lin,Ret pg 51 [l.av] (.bool (d9 l)):=c51 C.f51 C.f89 B.name
 have h9:=aDr C A k hk
 have h28:=PR C A k hk.nl hk.ks
 have h32:=fun l nl cl ds hb=>aCe M.f32 h51 M.f52 M.f53 l nl cl ds hb
 have h33:=fun t=>aCd M.f33 h32 t nl cl ds hb
 have h16:=aCG M.f16 k h9 nl cl ds hb (fun l=>h32 l nl cl ds hb) h33
 exact⟨h9,h16,fun at_=>c11 M.f11 k h9 at_,fun p=>c676 M.f676 k nl cl ds p (c684 M.f684 k h28) h16 h9,
  fun ok nl cl at_ v h1 h2=>c275 M.f275 (c65 C.f65 (c104 C.f104 C.f67 C.f142 C.f106)) (fun p hp hs=>c48 (yM A) C.f48 C.f74 p hp hs) (fun nl cl es hb v=>c293 M.f293 M.f316 nl cl es hb v)
   (fun v rank p hp=>c260 A M.f260 M.f272 M.f273 M.f274 M.f292 C.f108 v rank p hp) k ok (G6 hk) nl cl at_ v h1 h2⟩
theorem OW(C:Go.Tev.Code pg)(M:CodeAc pg)(A:Ora pg)(f664:pg.fs 664=some cf664)(k:aA)(hk:KOK k)(nl cl:Bool)(ds:List Val)(hb:ds.length<=big)(p:eN) :
  bL pg 664 [k.av,p.av,.sl nl (ds.map Val.av) cl] (uU k ds p (fun v es=>∃nl cl,v = .sl nl es cl)):=by
 obtain⟨h9,h16,h11,h676,h275⟩:=R8 C M A k hk nl cl ds hb
 have h264:=fun at_ v=>c264 M.f264 k h9 h275 at_ v
 refine bL.ofH ?_
 refine gT.mono (R1 f664 M.f694 k (c677 M.f677 k) nl cl ds p (h676 p) h264 h11 [] (fun _ _=>rfl)) ?_
 rintro r h' ⟨hR,_⟩
 unfold uU at hR ⊢
 by_cases hx:kF k ds p=0
 ·rw[if_pos hx]at hR
  obtain⟨v,rfl,ho⟩:=hR
  obtain⟨nl',cl',hc⟩:=MF ho (El.cls _) 0
  exact⟨_,hc,by rw[if_pos hx];exact⟨_,rfl,nl',cl',rfl⟩⟩
 ·rw[if_neg hx]at hR
  subst hR
  exact⟨_,rfl,by rw[if_neg hx]⟩
end
end Go.Tev
end
section
namespace Go.Tev
theorem vZ(k:aA)(P:List Sp)(at_:Int)(a b:Nat):dC k P at_ a b=dC k P at_ b a:=by
 simp only[dC,xR (plc P a) (plc P b),Bool.or_assoc,Bool.or_comm (mB k P at_ a b)]
theorem zX{k:aA}{P:List Sp}{at_ a b:Int}:pC k P at_ a b=[]↔dC k P at_ a.toNat b.toNat=true:=by
 rw[pC]
 cases dC k P at_ a.toNat b.toNat<;>simp
theorem xO(k:aA)(P:List Sp)(at_:Int):∀(l d:List Int),pW k P at_ d l=true↔(∀w∈d,∀v∈l,dC k P at_ v.toNat w.toNat=true)/\sG k P at_ l=[]
 |[],d=>by simp[pW,sG]
 |v::r,d=>by
  have ih:=xO k P at_ r (d++[v])
  have hf:r.flatMap (pC k P at_ v)=[]↔∀u∈r,dC k P at_ u.toNat v.toNat=true:=by
   rw[List.flatMap_eq_nil_iff]
   constructor
   ·intro h u hu;rw[vZ];exact zX.1 (h u hu)
   ·intro h u hu;rw[zX,vZ];exact h u hu
  rw[pW,Bool.and_eq_true,ih,sG,List.append_eq_nil_iff,hf,List.all_eq_true]
  constructor
  ·rintro⟨h1,h2,h3⟩
   refine⟨fun w hw u hu=>?_,fun u hu=>h2 v (by simp) u hu,h3⟩
   rcases List.mem_cons.1 hu with rfl|hu
   ·exact h1 w hw
   ·exact h2 w (by simp[hw]) u hu
  ·rintro⟨h1,h2,h3⟩
   refine⟨fun w hw=>h1 w hw v (by simp),fun w hw u hu=>?_,h3⟩
   rcases List.mem_append.1 hw with hw|hw
   ·exact h1 w hw u (by simp[hu])
   ·obtain rfl:w=v:=by simpa using hw
    exact h2 u hu
theorem xS(k:aA)(P:List Sp):∀(R:List Nat)(n:Nat),mJ k P n R=true↔uQ k P R=[]
 |[],_=>by simp[mJ,uQ]
 |j::R,n=>by
  have ih:=xS k P R (n+1)
  rw[mJ,Bool.and_eq_true,ih,xO]
  simp[uQ]
theorem NM(k:aA)(ds:List Val)(p:eN):wA k ds p=(decide (kF k ds p=0)&&decide (GC k p.P=[])):=by
 have h:=xS k p.P (List.range (k.list.es.length+2)) 0
 have hl:mJ k p.P 0 (List.range (k.list.es.length+2))=decide (GC k p.P=[]):=by
  rw[Bool.eq_iff_iff,h,decide_eq_true_eq];rfl
 have hs:wA k ds p=(decide (dY k ds=0)&&oC k ds p&&mJ k p.P 0 (List.range (k.list.es.length+2))):=by
  simp only[wA,oC,Bool.and_assoc]
 rw[hs,hl]
 congr 1
 rw[kF]
 by_cases hx:dY k ds=0
 ·rw[if_pos hx];cases oC k ds p<;>simp[hx]
 ·rw[if_neg hx];simp[hx]
section
variable{pg:Pg}
set_option maxRecDepth 100000 in
set_option maxHeartbeats 8000000 in
theorem c658(hf:pg.fs 658=some cf658)(h662:Ret pg 662 [] (.bool true))(k:aA)(p:eN)(nl cl:Bool)(ds:List Val)
  (h663:Ret pg 663 [k.av,p.av,.sl nl (ds.map Val.av) cl] (.bool (x5 k&&decide ((ds.length:Int)<=13)&&decide ((p.P.length:Int)<=20)&&decide ((p.C.length:Int)<=20))))
  (h664:bL pg 664 [k.av,p.av,.sl nl (ds.map Val.av) cl] (uU k ds p (fun v es=>∃nl cl,v = .sl nl es cl)))
  (h619:Ret pg 619 [k.av,p.av,.sl nl (ds.map Val.av) cl] (.bool (wA k ds p))):Ret pg 658 [k.av,p.av,.sl nl (ds.map Val.av) cl] (.bool true):=by
 have tlP:=oK p.P
 obtain⟨r,a4,s4⟩:=h664
 rw[NM]at h619
 simp only[aA.avc,eN.avc]at h663 a4 h619
 rw[aA.avc,eN.avc]
 refine Ret.ofX hf ?_
 unfold cf658
 simp only[go_sem,seval]
 refine aB h662 rfl rfl ?_
 simp only[go_sem,seval]
 refine aB h663 (by simp only[tlP,go_sem,seval]) rfl ?_
 cases hsm:x5 k&&decide ((ds.length:Int)<=13)&&decide ((p.P.length:Int)<=20)&&decide ((p.C.length:Int)<=20)
 ·simp only[go_sem,seval]
 unfold uU at s4
 by_cases hx:kF k ds p=0
 ·rw[if_pos hx]at s4
  obtain⟨v,rfl,nl',cl',rfl⟩:=s4
  have e0:decide (kF k ds p=0)=true:=by simp[hx]
  rw[e0,Bool.true_and]at h619
  have hln:decide (((GC k p.P).length:Int)=0)=decide (GC k p.P=[]):=by
   rw[decide_eq_decide]
   constructor
   ·intro h;exact List.length_eq_zero_iff.1 (by omega)
   ·intro h;rw[h];rfl
  have e2:(decide (GC k p.P=[])==decide (GC k p.P=[]))=true:=by simp
  simp only[go_sem,seval]
  refine aB a4 (by simp only[tlP,go_sem,seval]) rfl ?_
  simp only[List.length_map,hln,go_sem,seval]
  refine aB h619 (by simp only[tlP,go_sem,seval]) rfl ?_
  simp only[e2,go_sem,seval]
 ·rw[if_neg hx]at s4
  subst s4
  have e0:decide (kF k ds p=0)=false:=by simp[hx]
  rw[e0,Bool.false_and]at h619
  simp only[go_sem,seval]
  refine aB a4 (by simp only[tlP,go_sem,seval]) rfl ?_
  simp only[e0,go_sem,seval]
  refine aB h619 (by simp only[tlP,go_sem,seval]) rfl ?_
  simp only[go_sem,seval]
end
end Go.Tev
end
section
namespace Go.Tev
structure CodeAs(pg:Pg):Prop where
 f12:pg.fs 12=some cf12
 f17:pg.fs 17=some cf17
 f34:pg.fs 34=some cf34
 f35:pg.fs 35=some cf35
 f261:pg.fs 261=some cf261
 f265:pg.fs 265=some cf265
 f276:pg.fs 276=some cf276
 f294:pg.fs 294=some cf294
 f619:pg.fs 619=some cf619
 f630:pg.fs 630=some cf630
 f638:pg.fs 638=some cf638
 f658:pg.fs 658=some cf658
 f664:pg.fs 664=some cf664
section
variable{pg:Pg}
theorem R9(C:Go.Tev.Code pg)(D:Code3 pg)(M:CodeAc pg)(N:CodeAs pg)(A:Ora pg)(h662:Ret pg 662 [] (.bool true))(k:aA)(hk:KOK k)(p:eN)(nl cl:Bool)(ds:List Val)(hb:ds.length<=big):Ret pg 658 [k.av,p.av,.sl nl (ds.map Val.av) cl] (.bool true):=by
 have h77:∀s:Str,Ret pg 77 [.str s.bs] (.bool (fJ s.bs)):=fun s=>c77 D.f77 D.f114 D.f115 s.bs s.ok
 have h54:∀l:Lin,Ret pg 54 [l.av] (.bool (d9 l)):=c54 D.f54 h77 D.f90
 have h10:=VZ C D k hk
 have h34:=fun l nl cl ds hb=>aCc N.f34 h54 l nl cl ds hb
 have h35:=fun t=>c35 N.f35 h34 t nl cl ds hb
 have h17:=c17 N.f17 k h10 nl cl ds hb (fun l=>h34 l nl cl ds hb) h35
 have h276:kK k->∀(nl cl:Bool)(at_ v:Nat),at_<k.list.es.length->v<k.values.es.length->Ret pg 276 [k.av,.sl nl ((aF k).map bS) cl,.int .i64 at_,.int .i64 v] (.bool (qY k at_ v)):=
  fun ok nl cl at_ v h1 h2=>c276 N.f276 (c88 D.f88 (c121 D.f121 D.f162 D.f191)) (fun p hp hs v=>c294 N.f294 (c37 D.f37 D.f55) p hp hs v)
   (fun v rank p hp=>c261 N.f261 (VQ D.f122 D.f163) (c162 D.f162 D.f191) v rank p hp) k ok (G6 hk) nl cl at_ v h1 h2
 have h265:=fun at_ v=>c265 N.f265 k h10 h276 at_ v
 have h619:=c619 N.f619 N.f630 N.f638 k nl cl ds p h17 h10 h265 (fun at_=>c12 N.f12 k h10 at_)
 exact c658 N.f658 h662 k p nl cl ds (c663 M.f663 k (aDs C k hk) p nl cl ds) (OW C M A N.f664 k hk nl cl ds hb p) h619
end
end Go.Tev
end
