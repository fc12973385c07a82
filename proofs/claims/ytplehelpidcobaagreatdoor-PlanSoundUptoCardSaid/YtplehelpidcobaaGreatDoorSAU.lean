import Derived.Test.YtplehelpidcobaaGreatDoorSAT
set_option linter.all false
section
namespace Go.Tev
def gZ(at_:Int)(s:Sp):Bool := !decide (s.1 = -2)&&decide (s.1<=at_)&&decide (at_<=s.2)
def eE(at_:Int)(d:List Sp):List Int:=(d.zipIdx.filter fun x=>gZ at_ x.1).map fun x=>(x.2:Int)
theorem pO(at_:Int)(d:List Sp)(x:Sp):eE at_ (d++[x])=eE at_ d++if gZ at_ x then [(d.length:Int)] else []:=by
 simp only[eE,List.zipIdx_append,List.filter_append,List.map_append,List.zipIdx_singleton,Nat.zero_add]
 congr 1
 cases h:gZ at_ x<;>simp[h]
theorem iW{at_:Int}{d:List Sp}{v:Int}:v∈eE at_ d↔∃s,0<=v/\d[v.toNat]?=some s/\gZ at_ s=true:=by
 simp only[eE,List.mem_map,List.mem_filter,List.mem_zipIdx_iff_getElem?]
 constructor
 ·rintro⟨⟨s,i⟩,⟨h1,h2⟩,rfl⟩
  exact⟨s,by simp,by simpa using h1,h2⟩
 ·rintro⟨s,h0,h1,h2⟩
  exact⟨(s,v.toNat),⟨by simpa using h1,h2⟩,by simp;omega⟩
def kS(k:aA)(at_:Int)(r:AV):Prop:=
 if (cQ k).2=0 then
  (if at_ < -1\/(k.list.es.length:Int)<at_ then r = .tup [.sl true [] true,.int .i64 2] else ∃nl cl,r = .tup [.sl nl ((eE at_ (aF k)).map aG) cl,.int .i64 0])
 else r = .tup [.sl true [] true,.int .i64 22]
theorem gV{k:aA}(h:k.inputs.toNat<=k.values.es.length):(aF k).length=k.values.es.length:=by
 simp only[aF]
 rw[show lX=fun sp n l=>cU sp n l from rfl]
 rw[iK,oK,jR h]
section
variable{pg:Pg}
theorem c11(hf:pg.fs 11=some cf11)(k:aA)(h9:bJ pg 9 [k.av] (iC k))(at_:Int):bJ pg 11 [k.av,.int .i64 at_] (kS k at_):=by
 obtain⟨r9,hr9,hs9⟩:=h9
 refine bJ.ofX hf ?_
 unfold cf11
 simp only[aA.av,aA.cells,go_sem,seval]
 rcases iZ (k:=k) with hc|hc
 ·have ok:=eH hc
  have hso:=ok.out
  simp only[aZ,Bool.and_eq_true,decide_eq_true_eq]at hso
  obtain⟨_,⟨⟨⟨⟨⟨⟨_,_⟩,hi0⟩,_⟩,hiV⟩,_⟩,_⟩,_⟩:=hso
  have hsl:=gV (k:=k) (by omega)
  have hVb:=k.values.ok
  have htr:treeL ((aF k).map aR)=true:=bK (f:=aR) (fun s=>by simp[aR,go_sem]) _
  rw[iC,if_pos hc]at hs9
  subst hs9
  refine aB hr9 (by simp only[aA.av,aA.cells,go_sem,seval]) (by first|rfl|(simp[AV.tree,htr])) ?_
  simp only[go_sem,seval]
  cases ha:decide (at_ < -1)
  case true=>
   simp only[go_sem,seval]
   rw[kS,if_pos hc,if_pos (.inl (by simpa using ha))]
  case false=>
   simp only[go_sem,seval]
   cases hb:decide ((k.list.es.length:Int)<at_)
   case true=>
    simp only[go_sem,seval]
    rw[kS,if_pos hc,if_pos (.inr (by simpa using hb))]
   case false=>
    simp only[go_sem,seval]
    refine aI (aF k) (fun d r env hp=>∃v,env=cf11E0 (.int .i64 at_) v (.sl false ((aF k).map aR) false) (.int .i64 (aF k).length) (.int .i64 d.length)/\Own hp 13 1 false v ((eE at_ d).map aG)) ?_ ?_ ?_
    ·exact⟨_,rfl,Own.nil _ _ _ _ _ _ rfl⟩
    ·rintro env hp ⟨v,rfl,ho⟩
     simp only[cf11L0,cf11E0,go_sem,seval]
     have hfin:∀r,(∃nl cl,r = .tup [.sl nl ((eE at_ (aF k)).map aG) cl,.int .i64 0])->kS k at_ r:=by
      intro r hr
      rw[kS,if_pos hc,if_neg (by simp at ha hb;omega)]
      exact hr
     obtain⟨nl,cl,keys,hsn,_⟩:=ho.snap (El.ints _) 61
     rcases ho with ⟨he,nl',cl',rfl,_⟩|⟨e,cs,rfl,hg,hu⟩
     ·rw[<-he]
      simp only[go_sem,seval]
      exact hfin _ ⟨nl',cl',by rw[he]⟩
     ·simp only[List.length_map]at hsn
      simp only[Tev.conv,depth,eD,bW,bB,↓hsn,go_sem,List.length_map]
      exact hfin _ ⟨_,_,rfl⟩
    ·rintro d x r env hp hes ⟨v,rfl,ho⟩
     have hb2:(d++x::r).length<=big:=by rw[<-hes,hsl];exact hVb
     have hget:(aF k)[d.length]?=some x:=by rw[hes];simp
     have hlt:d.length<(aF k).length:=by rw[hes];simp
     have e1:decide ((d.length:Int)<((aF k).length:Int))=true:=by simp;omega
     have e2:((d.length:Int)<((aF k).length:Int))=True:=eq_true (by omega)
     have hll:(eE at_ d).length<=d.length:=by
      simp only[eE,List.length_map]
      exact Nat.le_trans (List.length_filter_le _ _) (by simp)
     have hdl:d.length<=16777216:=by simp only[big]at hb2;simp at hb2;omega
     have hin:∀y∈[AV.int .i64 (d.length:Int)],El 1 false y:=by intro y hy;simp at hy;subst hy;exact⟨rfl,rfl,rfl⟩
     have hw:=aM hb2
     have hno:gZ at_ x=false->eE at_ (d++[x])=eE at_ d:=by intro h;rw[pO,h];simp
     simp only[cf11L0,cf11E0,e1,e2,hget,aR,go_sem,seval]
     have hgo:∀hp':Hp,hp'.get 13=hp.get 13->Own hp' 13 1 false v ((eE at_ d).map aG):=fun hp' h=>ho.mono h
     cases b1:decide (x.fst = -2)
     case true=>
      simp only[hw,go_sem,seval]
      refine⟨v,rfl,?_⟩
      rw[hno (by simp[gZ,b1])]
      exact hgo _ (by simp only[go_sem,seval])
     cases b2:decide (x.fst<=at_)
     case false=>
      simp only[hw,b2,go_sem,seval]
      refine⟨v,rfl,?_⟩
      rw[hno (by simp[gZ,b1,b2])]
      exact hgo _ (by simp only[go_sem,seval])
     cases b3:decide (at_<=x.snd)
     case false=>
      simp only[hw,b2,b3,go_sem,seval]
      refine⟨v,rfl,?_⟩
      rw[hno (by simp[gZ,b1,b2,b3])]
      exact hgo _ (by simp only[go_sem,seval])
     simp only[hw,b2,b3,go_sem,seval]
     refine fV (kb:=0) (s:=13) (hgo _ ?_) (El.ints _) hin (by simp only[List.length_map,List.length_singleton];omega) (by decide) ?_
     ·simp only[go_sem,seval]
     ·intro v' rd pa ho2 _ _
      simp only[hw,go_sem,seval]
      refine⟨v',rfl,?_⟩
      rw[pO,show gZ at_ x=true by simp[gZ,b1,b2,b3]]
      simpa[rU] using ho2
 ·rw[iC,if_neg (by omega)]at hs9
  subst hs9
  refine aB hr9 (by simp only[aA.av,aA.cells,go_sem,seval]) rfl ?_
  simp only[go_sem,seval]
  rw[kS,if_neg (by omega)]
end
end Go.Tev
end
section
namespace Go.Tev
def fU(x:Int):List Int->List Int
 |[]=>[x]
 |y::r=>if decide (y<x) then y::fU x r else if decide (y=x) then y::r else x::y::r
theorem yR{x:Int}:∀(d rest:List Int),(∀y∈d,y<x)->fU x (d++rest)=d++fU x rest
 |[],rest,_=>rfl
 |y::d,rest,h=>by
  have h1:y<x:=h y (by simp)
  simp only[List.cons_append,fU,h1,decide_true,if_true]
  rw[yR d rest (fun z hz=>h z (List.mem_cons_of_mem _ hz))]
theorem tZ{x a:Int}:∀l:List Int,a∈fU x l↔a=x\/a∈l
 |[]=>by simp[fU]
 |y::r=>by
  simp only[fU]
  split
  ·simp only[List.mem_cons,tZ r]
   constructor<;>(intro h;rcases h with h|h|h<;>simp[h])
  ·split
   ·rename_i h;simp at h;subst h;simp
   ·simp
theorem yQ(x:Int):∀l:List Int,(fU x l).length<=l.length+1
 |[]=>by simp[fU]
 |y::r=>by
  have:=yQ x r
  simp only[fU]
  split
  ·simp;omega
  ·split<;>simp
def IsL(l:List Int)(r:AV):Prop:=(∃nl cl,r = .sl nl (l.map aG) cl)\/r = .os (l.map aG) 1 false
theorem IsL.of{l:List Int}{r:AV}(h:kO 1 false (l.map aG) r):IsL l r:=by
 rcases h with ⟨he,nl,cl,rfl,_⟩|h
 ·exact .inl ⟨nl,cl,by rw[he]⟩
 ·exact .inr h
section
variable{pg:Pg}
def QD(kb:Nat)(h:Hp)(k1:Nat)(l:List Int)(r:AV)(h':Hp):Prop:=
 ∃k2,Own h' k2 1 false r (l.map aG)/\(k2=k1\/k2=kb+5\/k2=kb+9)/\∀k,k≠kb+1->k≠kb+5->k≠kb+9->h'.get k=h.get k
theorem vH{h:Hp}{k e:Nat}{l:List Int}(hg:h.get k=some (e,.blk (l.map aG) 1 false false false)){n:Nat}(hn:n=l.length):Own h k 1 false (.rf k e 0 n n) (l.map aG):=by
 subst hn
 exact .inr ⟨e,_,by simp,hg,fX l⟩
theorem zD(l:List Int):(l.map aG).all (fun v=>v.cells.length==1)=true:=by
 rw[List.all_eq_true]
 intro x hx
 obtain⟨y,_,rfl⟩:=List.mem_map.1 hx
 rfl
theorem I1(nl cl:Bool)(d rest:List Int):∃c,∀h,gB h 1 false true false [.sl nl ((d++rest).map aG) cl,.int .i64 (d.length:Int)]=some (.sl nl (d.map aG) c,.pat [] []):=by
 refine⟨(nl||cl)&&((d.length:Int)==((((d++rest).map aG).length:Nat):Int)),fun h=>?_⟩
 simp only[gB,gS,gW,Bool.false_eq_true,if_false,if_true,Option.getD_none,Option.getD_some,zD,Option.isSome_none]
 rw[if_pos ⟨by omega,by omega,by omega,by simp only[List.length_map,List.length_append];omega,trivial⟩]
 simp[val]
theorem MA(nl cl:Bool)(d rest:List Int):∃c,∀h,gB h 1 true false false [.sl nl ((d++rest).map aG) cl,.int .i64 (d.length:Int)]=some (.sl nl (rest.map aG) c,.pat [] []):=by
 refine⟨(nl||cl)&&true,fun h=>?_⟩
 simp only[gB,gS,gW,Bool.false_eq_true,if_false,if_true,Option.getD_none,Option.getD_some,zD,Option.isSome_none]
 rw[if_pos ⟨by omega,by simp only[List.length_map,List.length_append];omega,by omega,by omega,trivial⟩]
 have e:((d++rest).map aG).drop (d.length:Int).toNat=rest.map aG:=by
  rw[Int.toNat_natCast,List.map_append,List.drop_left' (by simp)]
 rw[e,List.take_of_length_le (by simp only[List.length_map,List.length_append];omega)]
 simp[val]
theorem w9:∀l:List Int,bU (l.map aG)=true
 |[]=>rfl
 |x::r=>by simp only[List.map_cons,bU,w9 r];rfl
theorem IP(l:List Int)(a b:Nat):bU (((l.map aG).drop a).take b)=true:=by
 rw[<-List.map_drop,<-List.map_take];exact w9 _
theorem CL{H:Hp}{k e:Nat}{cs:List AV}{ag ti fz:Bool}(hg:H.get k=some (e,.blk cs 1 ag ti fz)){m n:Nat}(hm:m<=n)(hmx:ti=false) :
  gB H 1 false true false [.rf k e 0 n n,.int .i64 (m:Int)]=some (.rf k e 0 m n,.pat [k] []):=by
 subst hmx
 simp only[gB,gS,gW,Bool.false_eq_true,if_false,if_true,Option.getD_none,Option.getD_some,hg]
 rw[if_pos (by simp;omega)]
 simp
theorem I0{H:Hp}{k e:Nat}{cs:List AV}{ag fz:Bool}(hg:H.get k=some (e,.blk cs 1 ag false fz)){m n:Nat}(hm:m<n) :
  gB H 1 true false false [.rf k e 0 n n,.int .i64 (m:Int)]=some (.rf k e m (n-m) (n-m),.pat [k] []):=by
 simp only[gB,gS,gW,Bool.false_eq_true,if_false,if_true,Option.getD_none,Option.getD_some,hg]
 rw[if_pos (by simp;omega)]
 rw[if_neg (by omega)]
 simp
theorem L9{H:Hp}{k e:Nat}{cs:List AV}{ag fz:Bool}(hg:H.get k=some (e,.blk cs 1 ag false fz)){n:Nat}(hn:n≠0) :
  gB H 1 true false false [.rf k e 0 n n,.int .i64 (n:Int)]=some (.sl false [] false,.pat [k] []):=by
 simp only[gB,gS,gW,Bool.false_eq_true,if_false,if_true,Option.getD_none,Option.getD_some,hg]
 rw[if_neg (by rintro⟨_,_,_,_,_,_,_,h|h|h⟩<;>first|omega|cases h),if_pos (by simp)]
theorem EE{H:Hp}{k e:Nat}{l:List Int}{ag ti fz:Bool}(hg:H.get k=some (e,.blk (l.map aG) 1 ag ti fz)){off m cap:Nat}(hm:off+m<=l.length){xs:List Int}(hx:(l.drop off).take m=xs) :
  aP H 1 false (.rf k e off m cap)=some (xs.map aG,xs.length,[k]):=by
 subst hx
 simp only[aP,hg]
 rw[if_pos ⟨trivial,by simpa using hm,by simpa using IP l off m⟩]
 simp
 omega
theorem A9{H:Hp}{nl cl:Bool}(xs:List Int):aP H 1 false (.sl nl (xs.map aG) cl)=some (xs.map aG,xs.length,[]):=by
 simp[aP,fX]
theorem zP{H:Hp}{K:Nat}{src:AV}{xs:List Int}{rd:List Nat}(hs:aP H 1 false src=some (xs.map aG,xs.length,rd))(hx:xs≠[])(hl:xs.length<=1073741824) :
  l8 H K 1 false 8 [.sl false [] true,src]=some (.rf K (H.next K) 0 xs.length xs.length,.pat (K::rd) [⟨K,H.next K,.blk (xs.map aG) 1 false false false⟩]):=by
 have hn:xs.length≠0:=by simpa using hx
 simp[l8,hs,kL,hn,hl,bG]
theorem HN{H:Hp}{K:Nat}{src:AV}{rd:List Nat}(hs:aP H 1 false src=some ([],0,rd)) :
  l8 H K 1 false 8 [.sl false [] true,src]=some (.sl false [] true,.pat rd []):=by
 simp[l8,hs,kL]
theorem JN{H:Hp}{K K1 e1:Nat}{es:List Int}(hg:H.get K1=some (e1,.blk (es.map aG) 1 false false false))(hk:K1≠K){src:AV}{xs:List Int}{rd:List Nat}(hs:aP H 1 false src=some (xs.map aG,xs.length,rd))(hx:xs≠[])
  (hl:es.length+xs.length<=1073741824) {n:Nat} (hn:n=es.length) :
  l8 H K 1 false 8 [.rf K1 e1 0 n n,src]=some (.rf K (H.next K) 0 (es.length+xs.length) (es.length+xs.length),.pat (K::K1::rd) [⟨K1,e1,.dead⟩,⟨K,H.next K,.blk ((es++xs).map aG) 1 false false false⟩]):=by
 have hx0:xs.length≠0:=by simpa using hx
 subst hn
 have h2:(K1==K)=false:=by simpa using hk
 simp only[l8,hs,kL,hg,hx0,if_false,true_and,Nat.zero_add,Nat.mul_one]
 rw[if_pos (by simp),if_neg (by omega)]
 simp only[hl,decide_true,Bool.true_and,h2,Bool.not_false,Bool.false_eq_true,if_false,show (8:Nat)<=65536 from by decide,if_true]
 have ht:List.take es.length (List.map aG es)=List.map aG es:=by rw[List.take_of_length_le (by simp)]
 simp[ht]
theorem HM{H:Hp}{K K1 e1:Nat}{es:List Int}(hg:H.get K1=some (e1,.blk (es.map aG) 1 false false false)){src:AV}{rd:List Nat}(hs:aP H 1 false src=some ([],0,rd)){n:Nat}(hn:n=es.length) :
  l8 H K 1 false 8 [.rf K1 e1 0 n n,src]=some (.rf K1 e1 0 n n,.pat (K1::rd) []):=by
 subst hn
 simp only[l8,hs,kL,hg]
 rw[if_pos (by simp)]
 simp
attribute [local go_sem] Nat.left_eq_add Nat.add_eq_left
theorem aCi{f:Nat}(hf:pg.fs f=some cf55)(kb:Nat)(h:Hp)(k1 e:Nat)(l:List Int)(hb:l.length<big)(x:Int)(hg:h.get k1=some (e,.blk (l.map aG) 1 false false false))
  (n1:(k1=kb+1)=False) (n5:(k1=kb+5)=False) (n9:(k1=kb+9)=False) (hne:l≠[]) :
  lT pg f [.rf k1 e 0 l.length l.length,.int .i64 x] kb h (QD kb h k1 (fU x l)):=by
 have n1':(kb+1=k1)=False:=by rw[<-n1];exact propext eq_comm
 have n5':(kb+5=k1)=False:=by rw[<-n5];exact propext eq_comm
 have n9':(kb+9=k1)=False:=by rw[<-n9];exact propext eq_comm
 refine lT.ofX hf ?_
 unfold cf55
 simp only[big]at hb
 simp only[go_sem,seval]
 refine aI l (fun d r env hp=>env=cf55E0 (.rf k1 e 0 l.length l.length) (.int .i64 x) (.int .i64 d.length)/\hp=h/\∀y∈d,y<x) ?_ ?_ ?_
 ·exact⟨rfl,rfl,by simp⟩
 ·rintro env hp ⟨rfl,rfl,hI⟩
  have s2:∀H,aP H 1 false (.sl false [.int .i64 x] true)=some ([x].map aG,[x].length,[]):=fun H=>A9 [x]
  have s0:∀H,aP H 1 false (.sl false [] false)=some ([],0,[]):=fun H=>A9 []
  have hl':l=l++[]:=by simp
  have hres:fU x l=l++[x]:=by
   have:=yR l [] hI
   rwa [List.append_nil]at this
  have hd0:l≠[]:=hne
  have hlo:=CL (H:=hp) hg (m:=(l).length) (n:=l.length) (by omega) rfl
  simp only[cf55L0,cf55E0,↓hlo,go_sem,seval]
  have s1:=EE (off:=0) (m:=(l).length) (cap:=l.length) (xs:=l) hg (by omega) (by rw[hl'];simp)
  rw[gR,zP s1 hd0 (by omega)]
  simp only[n1,n5,n9,n1',n5',n9',go_sem,seval]
  rw[gR,JN (es:=l) (xs:=[x]) (by rw[aH,if_pos rfl]) (by omega) (s2 _) (by simp) (by simp;omega) rfl]
  have hhi:∀H:Hp,H.get k1=hp.get k1->gB H 1 true false false [.rf k1 e 0 l.length l.length,.int .i64 (l.length:Int)]=some (.sl false [] false,.pat [k1] []):=fun H h=>L9 (h.trans hg) (by simpa using hne)
  simp only[n1,n5,n9,n1',n5',n9',hg,↓hhi,go_sem,seval]
  rw[gR,HM (es:=l++[x]) (by rw[aH,if_pos rfl]) (s0 _) (by simp)]
  simp only[n1,n5,n9,n1',n5',n9',go_sem,seval]
  refine⟨by simp[gQ,i7,R.apart,R.uses,X.tmp,Eff.apart,AO,n1,n5,n9,n1',n5',n9',Nat.testBit],?_⟩
  rw[hres]
  refine⟨kb+5,vH (by simp only[aH,if_true,Nat.reduceEqDiff,Nat.left_eq_add,Nat.add_eq_left,if_false,List.nil_append,List.append_assoc,List.singleton_append,List.cons_append]) (by simp),by simp,?_⟩
  intro k q1 q5 q9
  simp only[aH,Ne.symm q1,Ne.symm q5,Ne.symm q9,if_false]
 ·rintro d y r env hp hes ⟨rfl,rfl,hI⟩
  have hb':(d++y::r).length<16777216:=by rw[<-hes];exact hb
  have hb2:(d++y::r).length<=big:=by simp only[big];omega
  have hw:=aM hb2
  have hget:l[d.length]?=some y:=by rw[hes];simp
  have hlt:d.length<l.length:=by rw[hes];simp
  have e1:decide ((d.length:Int)<(l.length:Int))=true:=by simp;omega
  have e2:((d.length:Int)<(l.length:Int))=True:=eq_true (by omega)
  cases hyx:decide (y<x)
  case true=>
   simp only[cf55L0,cf55E0,e1,e2,hg,Nat.mul_one,Nat.zero_add,hget,hyx,hw,go_sem,seval]
   refine⟨rfl,?_⟩
   intro z hz
   rw[List.mem_append,List.mem_singleton]at hz
   rcases hz with hz|rfl
   ·exact hI z hz
   ·simpa using hyx
  case false=>
   have hp2:=yR d (y::r) hI
   rw[<-hes]at hp2
   have hp3:fU x (y::r)=if decide (y=x) then y::r else x::y::r:=by rw[fU,hyx];rfl
   cases hye:decide (y=x)
   case true=>
    have hres:fU x l=l:=by rw[hp2,hp3,hye,hes];rfl
    simp only[cf55L0,cf55E0,e1,e2,hg,Nat.mul_one,Nat.zero_add,hget,hyx,hye,go_sem,seval]
    rw[hres]
    exact⟨k1,vH hg rfl,.inl rfl,fun _ _ _ _=>rfl⟩
   case false=>
    have hres:fU x l=d++x::y::r:=by rw[hp2,hp3,hye];rfl
    have hl':l=d++(y::r):=hes
    have s2:∀H,aP H 1 false (.sl false [.int .i64 x] true)=some ([x].map aG,[x].length,[]):=fun H=>A9 [x]
    have s0:∀H,aP H 1 false (.sl false [] false)=some ([],0,[]):=fun H=>A9 []
    have hll:l.length=d.length+(r.length+1):=by rw[hes];simp
    rcases List.eq_nil_or_concat d with hdn|⟨d1,d2,hdc⟩
    ·subst hdn
     have e1:decide ((0:Int)<(l.length:Int))=true:=by simp;omega
     have e2:((0:Int)<(l.length:Int))=True:=eq_true (by omega)
     have hget:l[0]?=some y:=by rw[hes];simp
     have hlo:gB hp 1 false true false [.rf k1 e 0 l.length l.length,.int .i64 0]=some (.rf k1 e 0 0 l.length,.pat [k1] []):=CL (H:=hp) hg (m:=0) (n:=l.length) (by omega) rfl
     simp only[cf55L0,cf55E0,e1,e2,hg,Nat.mul_one,Nat.zero_add,hget,hyx,hye,↓hlo,go_sem,seval]
     have s1:=EE (off:=0) (m:=0) (cap:=l.length) (xs:=[]) hg (by omega) (by simp)
     rw[gR,HN s1]
     simp only[n1,n5,n9,n1',n5',n9',go_sem,seval]
     rw[gR,zP (xs:=[x]) (s2 _) (by simp) (by simp)]
     have hhi:∀H:Hp,H.get k1=hp.get k1->gB H 1 true false false [.rf k1 e 0 l.length l.length,.int .i64 0]=some (.rf k1 e 0 (l.length-0) (l.length-0),.pat [k1] []):=fun H h=>I0 (h.trans hg) (by omega)
     simp only[n1,n5,n9,n1',n5',n9',hg,↓hhi,go_sem,seval]
     have s3:∀H:Hp,H.get k1=hp.get k1->aP H 1 false (.rf k1 e 0 (l.length-0) (l.length-0))=some (((y::r)).map aG,((y::r)).length,[k1]):=fun H h=>EE (h.trans hg) (by omega) (by rw[hl'];simp)
     rw[gR,JN (es:=[x]) (xs:=(y::r)) (by rw[aH,if_pos rfl];rfl) (by omega) (s3 _ (by simp only[aH,n1',n5',n9',if_false])) (by simp) (by simp;omega) (by simp)]
     simp only[n1,n5,n9,n1',n5',n9',go_sem,seval]
     refine⟨by simp[gQ,i7,R.apart,R.uses,X.tmp,Eff.apart,AO,n1,n5,n9,n1',n5',n9',Nat.testBit],?_⟩
     rw[hres]
     refine⟨kb+9,vH (by simp only[aH,if_true,Nat.reduceEqDiff,Nat.left_eq_add,Nat.add_eq_left,if_false,List.nil_append,List.append_assoc,List.singleton_append,List.cons_append];rfl) (by simp;omega),by simp,?_⟩
     intro k q1 q5 q9
     simp only[aH,Ne.symm q1,Ne.symm q5,Ne.symm q9,if_false]
    ·have hd0:d≠[]:=by rw[hdc];simp
     have hlo:=CL (H:=hp) hg (m:=(d).length) (n:=l.length) (by omega) rfl
     simp only[cf55L0,cf55E0,e1,e2,hg,Nat.mul_one,Nat.zero_add,hget,hyx,hye,↓hlo,go_sem,seval]
     have s1:=EE (off:=0) (m:=(d).length) (cap:=l.length) (xs:=d) hg (by omega) (by rw[hl'];simp)
     rw[gR,zP s1 hd0 (by omega)]
     simp only[n1,n5,n9,n1',n5',n9',go_sem,seval]
     rw[gR,JN (es:=d) (xs:=[x]) (by rw[aH,if_pos rfl]) (by omega) (s2 _) (by simp) (by simp;omega) rfl]
     have hhi:∀H:Hp,H.get k1=hp.get k1->gB H 1 true false false [.rf k1 e 0 l.length l.length,.int .i64 ((((d).length):Nat):Int)]=some (.rf k1 e (d).length (l.length-(d).length) (l.length-(d).length),.pat [k1] []):=fun H h=>I0 (h.trans hg) (by omega)
     simp only[n1,n5,n9,n1',n5',n9',hg,↓hhi,go_sem,seval]
     have s3:∀H:Hp,H.get k1=hp.get k1->aP H 1 false (.rf k1 e (d).length (l.length-(d).length) (l.length-(d).length))=some (((y::r)).map aG,((y::r)).length,[k1]):=fun H h=>EE (h.trans hg) (by omega) (by rw[hl'];simp)
     rw[gR,JN (es:=d++[x]) (xs:=(y::r)) (by rw[aH,if_pos rfl]) (by omega) (s3 _ (by simp only[aH,n1',n5',n9',if_false])) (by simp) (by simp;omega) (by simp)]
     simp only[n1,n5,n9,n1',n5',n9',go_sem,seval]
     refine⟨by simp[gQ,i7,R.apart,R.uses,X.tmp,Eff.apart,AO,n1,n5,n9,n1',n5',n9',Nat.testBit],?_⟩
     rw[hres]
     refine⟨kb+9,vH (by simp only[aH,if_true,Nat.reduceEqDiff,Nat.left_eq_add,Nat.add_eq_left,if_false,List.nil_append,List.append_assoc,List.singleton_append,List.cons_append]) (by simp;omega),by simp,?_⟩
     intro k q1 q5 q9
     simp only[aH,Ne.symm q1,Ne.symm q5,Ne.symm q9,if_false]
theorem aCh{f:Nat}(hf:pg.fs f=some cf55)(kb:Nat)(h:Hp)(k1:Nat)(nl cl:Bool)(x:Int) :
  lT pg f [.sl nl [] cl,.int .i64 x] kb h (QD kb h k1 [x]):=by
 have s2:∀H,aP H 1 false (.sl false [.int .i64 x] true)=some ([x].map aG,[x].length,[]):=fun H=>A9 [x]
 have s0:∀H nl cl,aP H 1 false (.sl nl [] cl)=some ([],0,[]):=fun H nl cl=>by simp[aP,bG]
 obtain⟨c1,q1⟩:=I1 nl cl [] []
 obtain⟨c2,q2⟩:=MA nl cl [] []
 simp only[List.append_nil,List.map_nil,List.length_nil,Int.natCast_zero]at q1 q2
 refine lT.ofX hf ?_
 unfold cf55
 simp only[go_sem,seval]
 rw[mJ]
 simp only[cf55L0,cf55M0,Tev.clear,↓q1,go_sem,seval]
 rw[gR,HN (s0 _ _ _)]
 simp only[go_sem,seval]
 rw[gR,zP (xs:=[x]) (s2 _) (by simp) (by simp)]
 simp only[↓q2,go_sem,seval]
 rw[gR,HM (es:=[x]) (by rw[aH,if_pos rfl];rfl) (s0 _ _ _) (by simp)]
 simp only[go_sem,seval]
 refine⟨by simp[gQ,i7,R.apart,R.uses,X.tmp,Eff.apart,AO,Nat.testBit],?_⟩
 refine⟨kb+5,vH (l:=[x]) (by rw[aH,if_pos rfl];rfl) rfl,by simp,?_⟩
 intro k q1 q5 q9
 simp only[aH,Ne.symm q5,if_false]
theorem aCj{f:Nat}(hf:pg.fs f=some cf55)(kb:Nat)(h:Hp)(k1 e:Nat)(x:Int)(hg:h.get k1=some (e,.blk [] 1 false false false))
  (n1:(k1=kb+1)=False) (n5:(k1=kb+5)=False) (n9:(k1=kb+9)=False) :
  lT pg f [.rf k1 e 0 0 0,.int .i64 x] kb h (QD kb h k1 [x]):=by
 have n1':(kb+1=k1)=False:=by rw[<-n1];exact propext eq_comm
 have n5':(kb+5=k1)=False:=by rw[<-n5];exact propext eq_comm
 have n9':(kb+9=k1)=False:=by rw[<-n9];exact propext eq_comm
 have s2:∀H,aP H 1 false (.sl false [.int .i64 x] true)=some ([x].map aG,[x].length,[]):=fun H=>A9 [x]
 have s0:∀H:Hp,H.get k1=h.get k1->aP H 1 false (.rf k1 e 0 0 0)=some ([],0,[k1]):=fun H hh=>by simp[aP,hh,hg,bU]
 have q1:∀H:Hp,H.get k1=h.get k1->gB H 1 false true false [.rf k1 e 0 0 0,.int .i64 0]=some (.rf k1 e 0 0 0,.pat [k1] []):=fun H hh=>by simp[gB,gS,gW,hh,hg]
 have q2:∀H:Hp,H.get k1=h.get k1->gB H 1 true false false [.rf k1 e 0 0 0,.int .i64 0]=some (.rf k1 e 0 0 0,.pat [k1] []):=fun H hh=>by simp[gB,gS,gW,hh,hg]
 refine lT.ofX hf ?_
 unfold cf55
 simp only[go_sem,seval]
 rw[mJ]
 simp only[cf55L0,cf55M0,Tev.clear,↓q1,go_sem,seval]
 rw[gR,HN (s0 _ rfl)]
 simp only[go_sem,seval]
 rw[gR,zP (xs:=[x]) (s2 _) (by simp) (by simp)]
 simp only[n1,n5,n9,n1',n5',n9',↓q2,go_sem,seval]
 rw[gR,HM (es:=[x]) (by rw[aH,if_pos rfl];rfl) (s0 _ (by simp only[aH,n1',n5',n9',if_false])) (by simp)]
 simp only[go_sem,seval]
 refine⟨by simp[gQ,i7,R.apart,R.uses,X.tmp,Eff.apart,AO,Nat.testBit,n1,n5,n9,n1',n5',n9'],?_⟩
 refine⟨kb+5,vH (l:=[x]) (by rw[aH,if_pos rfl];rfl) rfl,by simp,?_⟩
 intro k q1 q5 q9
 simp only[aH,Ne.symm q5,if_false]
theorem aCg{f:Nat}(hf:pg.fs f=some cf55){kb:Nat}{h:Hp}{k1:Nat}{v:AV}{l:List Int}(o:Own h k1 1 false v (l.map aG))(hb:l.length<big)(x:Int)(n1:k1≠kb+1)(n5:k1≠kb+5)(n9:k1≠kb+9) :
  lT pg f [v,.int .i64 x] kb h (QD kb h k1 (fU x l)):=by
 rcases o with ⟨he,nl,cl,rfl,_⟩|⟨e,cs,rfl,hg,hu⟩
 ·have:l=[]:=by simpa using he
  subst this
  exact aCh hf kb h k1 nl cl x
 ·rw[fX]at hu
  cases hu
  by_cases hl:l=[]
  ·subst hl
   exact aCj hf kb h k1 e x hg (eq_false n1) (eq_false n5) (eq_false n9)
  ·have:=aCi hf kb h k1 e l hb x hg (eq_false n1) (eq_false n5) (eq_false n9) hl
   simpa using this
end
end Go.Tev
end
section
namespace Go.Tev
def hU(acc l:List Int):List Int:=l.foldl (fun a x=>fU x a) acc
mutual
def bD:aC->List Int
 |.mk op _ value _ _ _ _ _ _ kids _=>cW (if decide (op.bs=[114,101,97,100]) then fU value [] else []) kids
def cW:List Int->List aC->List Int
 |acc,[]=>acc
 |acc,p::r=>cW (hU acc (bD p)) r
end
theorem vF(p:aC):bD p=cW (if decide (p.op.bs=[114,101,97,100]) then fU p.value [] else []) p.kids:=by cases p;rw[bD];rfl
theorem lA:∀(l acc:List Int),(hU acc l).length<=acc.length+l.length
 |[],acc=>by simp[hU]
 |x::r,acc=>by
  have h1:=lA r (fU x acc)
  have h2:=yQ x acc
  simp only[hU,List.foldl_cons,List.length_cons]at *
  omega
theorem sX(acc d:List Int)(x:Int):hU acc (d++[x])=fU x (hU acc d):=by simp[hU]
theorem rR{a:Int}:∀(l acc:List Int),a∈hU acc l↔a∈acc\/a∈l
 |[],acc=>by simp[hU]
 |x::r,acc=>by
  have h1:=rR (a:=a) r (fU x acc)
  simp only[hU,List.foldl_cons]at *
  rw[h1,tZ,List.mem_cons]
  constructor
  ·rintro((h|h)|h)<;>simp[h]
  ·rintro(h|h|h)<;>simp[h]
theorem pI:∀(d:List aC)(acc:List Int)(x:aC),cW acc (d++[x])=hU (cW acc d) (bD x)
 |[],acc,x=>by simp[cW]
 |y::d,acc,x=>by simp only[List.cons_append,cW];exact pI d _ x
mutual
theorem iL:∀p:aC,(bD p).length<=p.sz
 |.mk op _ value _ _ _ _ _ _ kids _=>by
  have h:=nQ kids (if decide (op.bs=[114,101,97,100]) then fU value [] else [])
  rw[bD,aC.sz]
  split at h<;>simp_all [fU]<;>omega
theorem nQ:∀(l:List aC)(acc:List Int),(cW acc l).length<=acc.length+aC.szL l
 |[],acc=>by simp[cW]
 |p::r,acc=>by
  have h1:=iL p
  have h2:=nQ r (hU acc (bD p))
  have h3:=lA (bD p) acc
  simp only[cW,aC.szL]at *
  omega
end
mutual
theorem iM(a:Int):∀p:aC,a∈bD p↔a∈dU p
 |.mk op _ value _ _ _ _ _ _ kids _=>by
  have h:=wQ a kids (if decide (op.bs=[114,101,97,100]) then fU value [] else [])
  rw[bD,dU,h,List.mem_append]
  cases decide (op.bs=[114,101,97,100])<;>simp[fU]
theorem wQ(a:Int):∀(l:List aC)(acc:List Int),a∈cW acc l↔a∈acc\/a∈gM l
 |[],acc=>by simp[cW,gM]
 |p::r,acc=>by
  have h1:=iM a p
  have h2:=wQ a r (hU acc (bD p))
  rw[cW,h2,rR,h1,gM,List.mem_append,or_assoc]
end
def gU(q:aD):List Int:=
 if decide (q.kind=3) then
  (let l:=hU (bD q.body) (bD q.index)
   if decide (q.source=q.value) then l else fU q.source l)
 else bD q.body
section
variable{pg:Pg}
theorem Iq(s:Nat)(v:AV)(x:Int):∃B,jB 0 s [v,.int .i64 x]=B/\65536<=B/\∀k e o l c,v = .rf k e o l c->k≠B+1/\k≠B+5/\k≠B+9:=by
 refine⟨_,rfl,?_,?_⟩
 ·simp only[jB];split<;>omega
 ·rintro k e o l c rfl
  simp only[jB,List.any_cons,List.any_nil,Bool.or_false]
  split
  ·rename_i h
   simp only[Bool.and_eq_true,decide_eq_true_eq]at h
   omega
  ·rename_i h
   simp only[Bool.and_eq_true,decide_eq_true_eq,not_and]at h
   omega
theorem AE{f s:Nat}{h:Hp}{k1:Nat}{v:AV}{l:List Int}{x:Int}{Q:AV->Eff->Prop}{t:Tok Q}(hf:pg.fs f=some cf55)(o:Own h k1 1 false v (l.map aG))(hb:l.length<big)
  (q:∀r h' k2,Own h' k2 1 false r ((fU x l).map aG)->(∀k,k<65536->h'.get k=h.get k)->Q r (.whole h')):XO pg 0 (.call f false true) s h [v,.int .i64 x] Q t:=by
 obtain⟨B,hB,hB1,hB2⟩:=Iq s v x
 have key:∃k1,Own h k1 1 false v (l.map aG)/\k1≠B+1/\k1≠B+5/\k1≠B+9:=by
  rcases o with ⟨he,nl,cl,rfl,hc⟩|⟨e,cs,rfl,hg,hu⟩
  ·exact⟨B,.inl ⟨he,nl,cl,rfl,hc⟩,by omega,by omega,by omega⟩
  ·exact⟨k1,.inr ⟨e,cs,rfl,hg,hu⟩,hB2 _ _ _ _ _ rfl⟩
 obtain⟨k1',o',a1,a5,a9⟩:=key
 refine wC (.inl rfl) hB (aCg hf o' hb x a1 a5 a9) ?_
 rintro r h' ⟨k2,p1,_,p3⟩
 exact q r h' k2 p1 (fun k hk=>p3 k (by omega) (by omega) (by omega))
theorem c37(hf:pg.fs 37=some cf37)(h55:pg.fs 55=some cf55):∀p:aC,p.ok->p.sz<=big->bJ pg 37 [p.av] (kO 1 false ((bD p).map aG)):=by
 refine aC.ind' fun p ih hp hsz=>?_
 obtain⟨hb,hk⟩:=(aC.ok_iff p).1 hp
 have hz:=aC.sz_eq p
 refine bJ.ofX hf ?_
 unfold cf37
 simp only[go_sem,seval]
 cases hr:decide (p.op.bs=[114,101,97,100])
 case true=>
  simp only[go_sem,seval]
  refine AE (l:=[]) h55 (Own.nil _ 0 _ _ _ _ rfl) (by decide) ?_
  intro v H k1 ho hun
  simp only[go_sem,seval]
  have hres:bD p=cW (fU p.value []) p.kids:=by rw[vF,hr];rfl
  refine aI p.kids (fun d r env hp=>∃v k1,env=cf37E1 (.pt 1 0 0) v (.int .i64 d.length)/\Own hp k1 1 false v ((cW (fU p.value []) d).map aG)/\hp.get 1=some (0,.blk (qX p p.kids) 9 true true false)) ?_ ?_ ?_
  ·exact⟨v,k1,rfl,ho,(hun 1 (by decide)).trans (by simp only[go_sem,seval];rfl)⟩
  ·rintro env hp ⟨v,k1,rfl,ho,h1⟩
   simp only[qX]at h1
   simp only[cf37L1,cf37E1,h1,go_sem,seval]
   rw[hres]
   exact ho.conv (El.ints _)
  ·rintro d x r env hp hes ⟨v,k1,rfl,ho,h1⟩
   have hxm:x∈p.kids:=by rw[hes];simp
   have hxs:x.sz<=big:=by have:=aC.szL_mem hxm;omega
   have hx:=ih x hxm (hk x hxm) hxs
   have hx':=hx
   rw[aC.avc]at hx'
   have hl1:=nQ d (fU p.value [])
   have hl2:=iL x
   have hst:(fU p.value []:List Int).length<=1:=by simp[fU]
   have hzz:aC.szL p.kids=aC.szL d+(x.sz+aC.szL r):=by rw[hes,aC.szL_append,aC.szL]
   rw[hes]at h1 hb
   rw[hes]
   have h0:=h1
   simp only[qX]at h1
   have hsno:=pI d (fU p.value []) x
   have hw:=aM hb
   clear ih hk
   simp only[cf37L1,cf37E1,h1,go_sem,seval]
   first|refine j8 hx (by simp only[go_sem,seval]) ?_|refine j8 hx' (by simp only[go_sem,seval]) ?_
   intro nl1 cl1 _
   simp only[go_sem,seval]
   refine aI (bD x) (fun d2 r2 env hp=>∃v k1,env=cf37E0 (.pt 1 0 0) v (.int .i64 d.length) (.sl nl1 ((bD x).map aG) cl1) (.int .i64 d2.length)/\Own hp k1 1 false v ((hU (cW (fU p.value []) d) d2).map aG)/\hp.get 1=some (0,.blk (qX p (d++x::r)) 9 true true false)) ?_ ?_ ?_
   ·exact⟨v,k1,rfl,ho.mono (by simp only[go_sem,seval]),by simp only[go_sem,seval];exact h0⟩
   ·clear ho h1 h0 hp
    rintro env hp ⟨v,k1,rfl,ho,h0⟩
    simp only[cf37L0,cf37E0,hw,go_sem,seval]
    rw[hsno]
    exact⟨v,k1,rfl,ho,h0⟩
   ·clear ho h1 h0 hp
    rintro d2 y r2 env hp hes2 ⟨v,k1,rfl,ho,h0⟩
    have hd2:d2.length<(bD x).length:=by rw[hes2];simp
    have hget:(bD x)[d2.length]?=some y:=by rw[hes2];simp
    have hpl:=lA d2 (cW (fU p.value []) d)
    have hbb:(hU (cW (fU p.value []) d) d2).length<big:=by omega
    have f1:decide ((d2.length:Int)<((bD x).length:Int))=true:=by simp;omega
    have f2:((d2.length:Int)<((bD x).length:Int))=True:=eq_true (by omega)
    have hw2:wr .i64 ((d2.length:Int)+1)=((d2++[y]).length:Int):=aM (r:=r2) (by rw[<-hes2];omega)
    have hsn2:=sX (cW (fU p.value []) d) d2 y
    simp only[cf37L0,cf37E0,f1,f2,hget,go_sem,seval]
    refine AE h55 ho hbb ?_
    intro r' h' k2 ho' hun
    simp only[hw2,go_sem,seval]
    rw[hsn2]
    exact⟨r',k2,rfl,ho',(hun 1 (by decide)).trans h0⟩
 case false=>
  simp only[go_sem,seval]
  have hres:bD p=cW ([]) p.kids:=by rw[vF,hr];rfl
  refine aI p.kids (fun d r env hp=>∃v k1,env=cf37E1 (.pt 1 0 0) v (.int .i64 d.length)/\Own hp k1 1 false v ((cW ([]) d).map aG)/\hp.get 1=some (0,.blk (qX p p.kids) 9 true true false)) ?_ ?_ ?_
  ·exact⟨_,0,rfl,Own.nil _ _ _ _ _ _ rfl,by simp only[go_sem,seval];rfl⟩
  ·rintro env hp ⟨v,k1,rfl,ho,h1⟩
   simp only[qX]at h1
   simp only[cf37L1,cf37E1,h1,go_sem,seval]
   rw[hres]
   exact ho.conv (El.ints _)
  ·rintro d x r env hp hes ⟨v,k1,rfl,ho,h1⟩
   have hxm:x∈p.kids:=by rw[hes];simp
   have hxs:x.sz<=big:=by have:=aC.szL_mem hxm;omega
   have hx:=ih x hxm (hk x hxm) hxs
   have hx':=hx
   rw[aC.avc]at hx'
   have hl1:=nQ d ([])
   have hl2:=iL x
   have hst:([]:List Int).length<=1:=by simp[fU]
   have hzz:aC.szL p.kids=aC.szL d+(x.sz+aC.szL r):=by rw[hes,aC.szL_append,aC.szL]
   rw[hes]at h1 hb
   rw[hes]
   have h0:=h1
   simp only[qX]at h1
   have hsno:=pI d ([]) x
   have hw:=aM hb
   clear ih hk
   simp only[cf37L1,cf37E1,h1,go_sem,seval]
   first|refine j8 hx (by simp only[go_sem,seval]) ?_|refine j8 hx' (by simp only[go_sem,seval]) ?_
   intro nl1 cl1 _
   simp only[go_sem,seval]
   refine aI (bD x) (fun d2 r2 env hp=>∃v k1,env=cf37E0 (.pt 1 0 0) v (.int .i64 d.length) (.sl nl1 ((bD x).map aG) cl1) (.int .i64 d2.length)/\Own hp k1 1 false v ((hU (cW ([]) d) d2).map aG)/\hp.get 1=some (0,.blk (qX p (d++x::r)) 9 true true false)) ?_ ?_ ?_
   ·exact⟨v,k1,rfl,ho.mono (by simp only[go_sem,seval]),by simp only[go_sem,seval];exact h0⟩
   ·clear ho h1 h0 hp
    rintro env hp ⟨v,k1,rfl,ho,h0⟩
    simp only[cf37L0,cf37E0,hw,go_sem,seval]
    rw[hsno]
    exact⟨v,k1,rfl,ho,h0⟩
   ·clear ho h1 h0 hp
    rintro d2 y r2 env hp hes2 ⟨v,k1,rfl,ho,h0⟩
    have hd2:d2.length<(bD x).length:=by rw[hes2];simp
    have hget:(bD x)[d2.length]?=some y:=by rw[hes2];simp
    have hpl:=lA d2 (cW ([]) d)
    have hbb:(hU (cW ([]) d) d2).length<big:=by omega
    have f1:decide ((d2.length:Int)<((bD x).length:Int))=true:=by simp;omega
    have f2:((d2.length:Int)<((bD x).length:Int))=True:=eq_true (by omega)
    have hw2:wr .i64 ((d2.length:Int)+1)=((d2++[y]).length:Int):=aM (r:=r2) (by rw[<-hes2];omega)
    have hsn2:=sX (cW ([]) d) d2 y
    simp only[cf37L0,cf37E0,f1,f2,hget,go_sem,seval]
    refine AE h55 ho hbb ?_
    intro r' h' k2 ho' hun
    simp only[hw2,go_sem,seval]
    rw[hsn2]
    exact⟨r',k2,rfl,ho',(hun 1 (by decide)).trans h0⟩
end
end Go.Tev
end
section
namespace Go.Tev
section
variable{pg:Pg}
theorem c114(hf:pg.fs 114=some cf114)(c:UInt8):Ret pg 114 [.int .u8 (c.toNat:Int)] (.bool (bA c)):=by
 refine Ret.ofX hf ?_
 unfold cf114
 cases b1:decide (48<=(c.toNat:Int))
 ·simp only[b1,go_sem,seval]
  have:¬ 48<=c.toNat:=by have:=of_decide_eq_false b1;omega
  simp[bA,this]
 ·simp only[b1,go_sem,seval]
  have:48<=c.toNat:=by have:=of_decide_eq_true b1;omega
  simp only[bA,this,decide_true,Bool.true_and]
  rw[decide_eq_decide];omega
theorem c115(hf:pg.fs 115=some cf115)(c:UInt8):Ret pg 115 [.int .u8 (c.toNat:Int)] (.bool (fJ c)):=by
 refine Ret.ofX hf ?_
 unfold cf115
 cases b1:decide (97<=(c.toNat:Int))
 ·simp only[b1,go_sem,seval]
  have:¬ 97<=c.toNat:=by have:=of_decide_eq_false b1;omega
  simp[fJ,this]
 ·simp only[b1,go_sem,seval]
  have:97<=c.toNat:=by have:=of_decide_eq_true b1;omega
  simp only[fJ,this,decide_true,Bool.true_and]
  rw[decide_eq_decide];omega
theorem c90(hf:pg.fs 90=some cf90)(n:Int):Ret pg 90 [.int .i64 n] (.bool (lV n)):=by
 refine Ret.ofX hf ?_
 unfold cf90
 cases b1:decide (-1000000<=n)
 ·simp only[b1,go_sem,seval]
  simp[lV,b1]
 ·simp only[b1,go_sem,seval]
  simp[lV,b1]
theorem c77(hf:pg.fs 77=some cf77)(h114:pg.fs 114=some cf114)(h115:pg.fs 115=some cf115)(s:List UInt8)(hb:s.length<=big):Ret pg 77 [.str s] (.bool (fT s)):=by
 refine Ret.ofX hf ?_
 unfold cf77
 cases b0:decide ((s.length:Int)=0)
 case true=>
  have:s=[]:=List.eq_nil_of_length_eq_zero (by have:=of_decide_eq_true b0;omega)
  simp only[b0,go_sem,seval]
  subst this
  rfl
 case false=>
 obtain⟨c,t,hs⟩:∃c t,s=c::t:=by
  cases s with
  |nil=>simp at b0
  |cons c t=>exact⟨c,t,rfl⟩
 have hg0:s[0]?=some c:=by rw[hs];rfl
 have hlt:s.length=t.length+1:=by rw[hs];rfl
 have hnu:fT s=(decide (s.length<=30)&&(if c=95 then decide (2<=s.length)&&decide (s.length<=10) && !decide (t.head?=some 48)&&t.all bA else fJ c&&t.all (fun x=>fJ x||bA x))):=by rw[hs];rfl
 cases b1:decide (30<(s.length:Int))
 case true=>
  simp only[b0,b1,go_sem,seval]
  have:¬s.length<=30:=by have:=of_decide_eq_true b1;omega
  simp[hnu,this]
 case false=>
 have h30:s.length<=30:=by have:=of_decide_eq_false b1;omega
 have hd30:decide (s.length<=30)=true:=decide_eq_true h30
 rw[hnu,hd30,Bool.true_and]
 clear hnu
 simp only[b0,b1,hg0,go_sem,seval]
 have hi0:∀(d:List UInt8)(x:UInt8)(r:List UInt8),s=d++x::r->s[d.length]?=some x/\decide ((d.length:Int)<(s.length:Int))=true/\wr .i64 ((d.length:Int)+1)=((d++[x]).length:Int):=by
  intro d x r he
  refine⟨by rw[he];simp,by rw[he];simp;omega,?_⟩
  exact aM (r:=r) (by rw[<-he];exact hb)
 cases b2:decide ((c.toNat:Int)=95)
 case true=>
  have hc:c=95:=by
   have h:=of_decide_eq_true b2
   exact UInt8.toNat_inj.1 (by simpa using (show c.toNat=95 by omega))
  rw[if_pos hc]
  cases b3:decide ((s.length:Int)<2)
  case true=>
   have:¬ 2<=s.length:=by have:=of_decide_eq_true b3;omega
   simp only[b3,go_sem,seval]
   simp[this]
  case false=>
  have h2:2<=s.length:=by have:=of_decide_eq_false b3;omega
  cases b4:decide (10<(s.length:Int))
  case true=>
   have:¬s.length<=10:=by have:=of_decide_eq_true b4;omega
   simp only[b3,b4,go_sem,seval]
   simp[this]
  case false=>
  have h10:s.length<=10:=by have:=of_decide_eq_false b4;omega
  obtain⟨d,u,ht⟩:∃d u,t=d::u:=by
   cases t with
   |nil=>simp at hlt;omega
   |cons d u=>exact⟨d,u,rfl⟩
  have hg1:s[1]?=some d:=by rw[hs,ht];rfl
  have hhd:t.head?=some d:=by rw[ht];rfl
  cases b5:decide ((d.toNat:Int)=48)
  case true=>
   have hd:d=48:=by
    have h:=of_decide_eq_true b5
    exact UInt8.toNat_inj.1 (by simpa using (show d.toNat=48 by omega))
   simp only[b3,b4,hg1,b5,go_sem,seval]
   simp[hhd,hd]
  case false=>
  have hd:¬d=48:=by
   intro h;subst h
   exact absurd rfl (of_decide_eq_false b5)
  have hres:(decide (2<=s.length)&&decide (s.length<=10) && !decide (t.head?=some 48)&&t.all bA)=t.all bA:=by simp[h2,h10,hhd,hd]
  rw[hres]
  simp only[b3,b4,hg1,b5,go_sem,seval]
  refine aI t (fun e r env hp=>env=cf77E0 (.str s) (.int .i64 ((e.length+1:Nat):Int))/\t.all bA=r.all bA) ?_ ?_ ?_
  ·exact⟨rfl,rfl⟩
  ·rintro env hp ⟨rfl,hI⟩
   have hex:decide (((t.length+1:Nat):Int)<(s.length:Int))=false:=by simp;omega
   simp only[cf77L0,cf77E0,hex,go_sem,seval]
   rw[hI];rfl
  ·rintro e x r env hp he ⟨rfl,hI⟩
   have hse:s=(c::e)++x::r:=by rw[hs,he];rfl
   obtain⟨k1,k2,k3⟩:=hi0 _ _ _ hse
   have k0:(c::e).length=e.length+1:=rfl
   have k4:((c::e)++[x]).length=(e++[x]).length+1:=by simp
   rw[k0]at k1 k2 k3
   rw[k4]at k3
   simp only[cf77L0,cf77E0,k1,k2,go_sem,seval]
   refine aB (c114 h114 x) rfl rfl ?_
   cases hx:bA x
   ·simp only[hx,go_sem,seval]
    rw[hI];simp[hx]
   ·simp only[hx,k3,go_sem,seval]
    refine⟨rfl,?_⟩
    rw[hI];simp[hx]
 case false=>
  have hc:¬c=95:=by
   intro h;subst h
   exact absurd rfl (of_decide_eq_false b2)
  rw[if_neg hc]
  simp only[b2,go_sem,seval]
  refine aI s (fun e r env hp=>env=cf77E1 (.str s) (.int .i64 e.length)/\(e=[]\/(fJ c&&t.all (fun x=>fJ x||bA x))=r.all (fun x=>fJ x||bA x))) ?_ ?_ ?_
  ·exact⟨rfl,.inl rfl⟩
  ·rintro env hp ⟨rfl,hI⟩
   have hex:decide ((s.length:Int)<(s.length:Int))=false:=by simp
   simp only[cf77L1,cf77E1,hex,go_sem,seval]
   rcases hI with h|h
   ·exact absurd h (by rw[hs];simp)
   ·rw[h];rfl
  ·rintro e x r env hp he ⟨rfl,hI⟩
   obtain⟨k1,k2,k3⟩:=hi0 _ _ _ he
   have hI2:(fJ c&&t.all (fun x=>fJ x||bA x))=((if e=[] then fJ x else (fJ x||bA x))&&r.all (fun x=>fJ x||bA x)):=by
    rcases hI with h|h
    ·subst h
     rw[hs]at he
     simp only[List.nil_append,List.cons.injEq]at he
     obtain⟨rfl,rfl⟩:=he
     simp
    ·by_cases h0:e=[]
     ·subst h0
      rw[hs]at he
      simp only[List.nil_append,List.cons.injEq]at he
      obtain⟨rfl,rfl⟩:=he
      simp
     ·rw[h,if_neg h0];simp
   rw[hI2]
   clear hI hI2
   simp only[cf77L1,cf77E1,k1,k2,go_sem,seval]
   refine aB (c115 h115 x) rfl rfl ?_
   cases hx:fJ x
   case true=>
    simp only[hx,k3,go_sem,seval]
    refine⟨rfl,.inr ?_⟩
    split<;>simp
   case false=>
   by_cases h0:e=[]
   ·have h1:decide ((e.length:Int)=0)=true:=by simp[h0]
    simp only[hx,h1,go_sem,seval]
    simp[h0]
   ·have h1:decide ((e.length:Int)=0)=false:=by simp[h0]
    simp only[hx,h1,k1,go_sem,seval]
    refine aB (c114 h114 x) rfl rfl ?_
    cases hy:bA x
    ·simp only[hx,hy,go_sem,seval]
     simp[h0]
    ·simp only[hx,hy,k3,go_sem,seval]
     refine⟨rfl,.inr ?_⟩
     simp[h0]
theorem c54(hf:pg.fs 54=some cf54)(h77:∀s:Str,Ret pg 77 [.str s.bs] (.bool (fT s.bs)))(h90:pg.fs 90=some cf90)(l:Lin):Ret pg 54 [l.av] (.bool (d9 l)):=by
 refine Ret.ofX hf ?_
 unfold cf54
 simp only[go_sem,seval]
 refine aB (c90 h90 _) (by simp only[go_sem,seval]) rfl ?_
 simp only[go_sem,seval]
 cases h9:lV l.c
 case false=>
  simp only[go_sem,seval]
  simp[d9,h9]
 cases h12:decide (12<(l.ts.es.length:Int))
 case true=>
  simp only[h12,go_sem,seval]
  have:¬(l.ts.es.length:Int)<=12:=by have:=of_decide_eq_true h12;omega
  simp[d9,this]
 simp only[h12,go_sem,seval]
 have hlin:d9 l=j9 [] l.ts.es:=by
  have:(l.ts.es.length:Int)<=12:=by have:=of_decide_eq_false h12;omega
  simp[d9,h9,this]
 refine aI l.ts.es (fun d r env hp=>hp.get 1=some (0,.blk [.int .i64 l.c,.sl l.ts.nl (l.ts.es.map bS.av) l.ts.cl] 2 true true false) /\
  env=cf54E0 (.pt 1 0 0) (.int .i64 d.length)/\d9 l=j9 d r) ?_ ?_ ?_
 ·exact⟨rfl,rfl,hlin⟩
 ·rintro env hp ⟨h1,rfl,hq⟩
  simp only[cf54L0,cf54E0,h1,go_sem,seval]
  rw[hq];rfl
 ·rintro d x r env hp hes ⟨h1,rfl,hq⟩
  have hb:=l.ts.ok
  have hget:l.ts.es[d.length]?=some x:=by rw[hes];simp
  have e1:decide ((d.length:Int)<(l.ts.es.length:Int))=true:=by rw[hes];simp;omega
  have e2:((d.length:Int)<(l.ts.es.length:Int))=True:=eq_true (by rw[hes];simp;omega)
  have hsb:(d++x::r).length<=big:=by rw[<-hes];exact hb
  simp only[j9]at hq
  simp only[cf54L0,cf54E0,h1,hget,e1,e2,go_sem,seval]
  refine aB (h77 x.v) (by simp only[go_sem,seval]) rfl ?_
  simp only[go_sem,seval]
  cases hn:fT x.v.bs
  case false=>
   simp only[go_sem,seval]
   refine And.intro (by kernel_rfl) ?_
   simp[hq,hn]
  cases hc:decide (x.c=0)
  case true=>
   simp only[hc,go_sem,seval]
   refine And.intro (by kernel_rfl) ?_
   simp[hq,hc]
  simp only[hc,go_sem,seval]
  refine aB (c90 h90 x.c) (by simp only[go_sem,seval]) rfl ?_
  simp only[go_sem,seval]
  cases hx9:lV x.c
  case false=>
   simp only[go_sem,seval]
   refine And.intro (by kernel_rfl) ?_
   simp[hq,hx9]
  rcases List.eq_nil_or_concat d with hd|⟨d',q,hd⟩
  ·have e3:decide (0<(d.length:Int))=false:=by simp[hd]
   simp only[hx9,e3,aM hsb,go_sem,seval]
   refine And.intro (by kernel_rfl) ⟨h1,rfl,?_⟩
   subst hd
   simp[hq,hx9,hc,hn]
  ·have hd':d=d'++[q]:=by simpa using hd
   have e3:decide (0<(d.length:Int))=true:=by simp[hd']
   have e4:wr .i64 ((d.length:Int)-1)=(d'.length:Int):=by rw[aV (by simp only[hd',List.length_append,List.length_singleton];omega) (by simp only[big,List.length_append]at hsb;omega),hd',List.length_append,List.length_singleton];omega
   have e5:l.ts.es[d'.length]?=some q:=by rw[hes,hd'];simp
   have e6:((d'.length:Int)<(l.ts.es.length:Int))=True:=eq_true (by rw[hes,hd'];simp;omega)
   cases hl:Op.bytesLess q.v.bs x.v.bs
   ·simp only[hx9,e3,e4,e5,e6,h1,hl,go_sem,seval]
    refine And.intro (by kernel_rfl) ?_
    simp[hq,hd',hl]
   ·simp only[hx9,e3,e4,e5,e6,h1,hl,aM hsb,go_sem,seval]
    refine And.intro (by kernel_rfl) ⟨rfl,?_⟩
    simp[hq,hx9,hc,hn,hd',hl]
end
end Go.Tev
end
section
namespace Go.Tev
section
variable{pg:Pg}
theorem wP(l:Lin)(r:List Lin)(vars:List Str):bX (l::r) vars=(d9 l&&(l.ts.es.all (fun x=>jV vars x.v.bs)&&bX r vars)):=by
 simp[bX,Bool.and_assoc]
theorem c80(hf:pg.fs 80=some cf80)(h54:∀l:Lin,Ret pg 54 [l.av] (.bool (d9 l)))(nl cl:Bool)(ls:List Lin)(hb:ls.length<=big)(nl' cl':Bool)(vars:List Str)(hb':vars.length<=big) :
  Ret pg 80 [.sl nl (ls.map Lin.av) cl,.sl nl' (vars.map Str.av) cl'] (.bool (bX ls vars)):=by
 refine Ret.ofX hf ?_
 unfold cf80
 simp only[go_sem,seval]
 refine aI ls (fun d r env hp=>env=cf80E2 (.sl nl (ls.map Lin.av) cl) (.sl nl' (vars.map Str.av) cl') (.int .i64 d.length)/\bX ls vars=bX r vars) ?_ ?_ ?_
 ·exact⟨rfl,rfl⟩
 ·rintro env hp ⟨rfl,hI⟩
  simp only[cf80L2,cf80E2,go_sem,seval]
  rw[hI];rfl
 ·rintro d l r env hp hes ⟨rfl,hI⟩
  rw[wP]at hI
  have hsb:(d++l::r).length<=big:=by rw[<-hes];exact hb
  have hget:ls[d.length]?=some l:=by rw[hes];simp
  have e1:decide ((d.length:Int)<(ls.length:Int))=true:=by rw[hes];simp;omega
  have e2:((d.length:Int)<(ls.length:Int))=True:=eq_true (by rw[hes];simp;omega)
  rw[hI]
  clear hI
  simp only[cf80L2,cf80E2,hget,e1,e2,go_sem,seval]
  refine aB (h54 l) (by simp only[go_sem,seval]) rfl ?_
  simp only[go_sem,seval]
  cases hl:d9 l
  case false=>
   simp only[go_sem,seval]
  simp only[go_sem,seval]
  have hlb:=l.ts.ok
  refine aI l.ts.es (fun d2 r2 env hp=>env=cf80E1 (.sl nl (ls.map Lin.av) cl) (.sl nl' (vars.map Str.av) cl') (.int .i64 d.length) (.int .i64 d2.length)/\l.ts.es.all (fun x=>jV vars x.v.bs)=r2.all (fun x=>jV vars x.v.bs)) ?_ ?_ ?_
  ·exact⟨rfl,rfl⟩
  ·rintro env hp ⟨rfl,hI⟩
   have f1:decide ((l.ts.es.length:Int)<(l.ts.es.length:Int))=false:=by simp
   simp only[cf80L1,cf80E1,hget,e2,f1,aM hsb,go_sem,seval]
   refine⟨rfl,?_⟩
   rw[hI];simp
  ·rintro d2 x r2 env hp he2 ⟨rfl,hI⟩
   have hsb2:(d2++x::r2).length<=big:=by rw[<-he2];exact hlb
   have hget2:l.ts.es[d2.length]?=some x:=by rw[he2];simp
   have g1:decide ((d2.length:Int)<(l.ts.es.length:Int))=true:=by rw[he2];simp;omega
   have g2:((d2.length:Int)<(l.ts.es.length:Int))=True:=eq_true (by rw[he2];simp;omega)
   rw[hI]
   clear hI
   simp only[cf80L1,cf80E1,hget,e2,g1,go_sem,seval]
   refine aI vars (fun d3 r3 env hp=>env=cf80E0 (.sl nl (ls.map Lin.av) cl) (.sl nl' (vars.map Str.av) cl') (.int .i64 d.length) (.int .i64 d2.length) (.bool (d3.any fun s=>decide (x.v.bs=s.bs))) (.int .i64 d3.length)) ?_ ?_ ?_
   ·rfl
   ·rintro env hp rfl
    simp only[cf80L0,cf80E0,go_sem,seval]
    have hh:(vars.any fun s=>decide (x.v.bs=s.bs))=jV vars x.v.bs:=rfl
    rw[hh]
    cases hv:jV vars x.v.bs
    case false=>
     simp only[go_sem,seval]
    case true=>
     simp only[aM hsb2,go_sem,seval]
     rfl
   ·rintro d3 y r3 env hp he3 rfl
    have hsb3:(d3++y::r3).length<=big:=by rw[<-he3];exact hb'
    have hget3:vars[d3.length]?=some y:=by rw[he3];simp
    have k1:decide ((d3.length:Int)<(vars.length:Int))=true:=by rw[he3];simp;omega
    have k2:((d3.length:Int)<(vars.length:Int))=True:=eq_true (by rw[he3];simp;omega)
    have hany:((d3++[y]).any fun s=>decide (x.v.bs=s.bs))=((d3.any fun s=>decide (x.v.bs=s.bs))||decide (x.v.bs=y.bs)):=by simp
    rw[hany]
    cases hA:(d3.any fun s=>decide (x.v.bs=s.bs))
    case true=>
     simp only[cf80L0,cf80E0,k1,k2,hget3,aM hsb3,go_sem,seval]
     exact⟨by kernel_rfl,rfl⟩
    case false=>
     have hsym:decide (y.bs=x.v.bs)=decide (x.v.bs=y.bs):=by rw[decide_eq_decide];exact eq_comm
     simp only[cf80L0,cf80E0,k1,k2,hget3,hget,hget2,e2,g2,hsym,aM hsb3,go_sem,seval]
     exact⟨by kernel_rfl,rfl⟩
theorem c160(hf:pg.fs 160=some cf160)(s:List UInt8)(hb:s.length<=big):Ret pg 160 [.str s] (.bool (fK s)):=by
 refine Ret.ofX hf ?_
 unfold cf160
 cases b0:decide ((s.length:Int)=0)
 case true=>
  have:s=[]:=List.eq_nil_of_length_eq_zero (by have:=of_decide_eq_true b0;omega)
  have e1:decide (1<((0:Nat):Int))=false:=by decide
  simp only[go_sem,seval]
  refine aI ([]:List UInt8) (fun e r env hp=>env=cf160E0 (.str s) (.int .i64 1)) ?_ ?_ ?_
  ·rfl
  ·rintro env hp rfl
   subst this
   simp only[cf160L0,cf160E0,go_sem,seval]
   rfl
  ·rintro e x r env hp he _
   simp at he
 case false=>
 obtain⟨c,t,hs⟩:∃c t,s=c::t:=by
  cases s with
  |nil=>simp at b0
  |cons c t=>exact⟨c,t,rfl⟩
 have hg0:s[0]?=some c:=by rw[hs];rfl
 have hlt:s.length=t.length+1:=by rw[hs];rfl
 have hev:fK s=(decide (s.length<=30)&&(decide (65<=c.toNat)&&decide (c.toNat<=90))&&t.all bA):=by rw[hs];rfl
 simp only[go_sem,seval]
 refine aI t (fun e r env hp=>env=cf160E0 (.str s) (.int .i64 ((e.length+1:Nat):Int))/\t.all bA=r.all bA) ?_ ?_ ?_
 ·exact⟨rfl,rfl⟩
 ·rintro env hp ⟨rfl,hI⟩
  have hI':t.all bA=true:=by rw[hI];rfl
  rw[hev,hI',Bool.and_true]
  have hex:decide (((t.length+1:Nat):Int)<(s.length:Int))=false:=by simp;omega
  have f1:decide (1<=(s.length:Int))=true:=by simp;omega
  cases b1:decide ((s.length:Int)<=30)
  case false=>
   have:¬s.length<=30:=by have:=of_decide_eq_false b1;omega
   simp only[cf160L0,cf160E0,hex,f1,b1,go_sem,seval]
   simp[this]
  case true=>
  have h30:s.length<=30:=by have:=of_decide_eq_true b1;omega
  cases b2:decide (65<=(c.toNat:Int))
  case false=>
   have:¬ 65<=c.toNat:=by have:=of_decide_eq_false b2;omega
   simp only[cf160L0,cf160E0,hex,f1,b1,hg0,b2,go_sem,seval]
   simp[this]
  case true=>
  have h65:65<=c.toNat:=by have:=of_decide_eq_true b2;omega
  have hc:decide ((c.toNat:Int)<=90)=decide (c.toNat<=90):=by rw[decide_eq_decide];omega
  simp only[cf160L0,cf160E0,hex,f1,b1,hg0,b2,hc,go_sem,seval]
  simp[h30,h65]
 ·rintro e x r env hp he ⟨rfl,hI⟩
  have hse:s=(c::e)++x::r:=by rw[hs,he];rfl
  have k1:s[e.length+1]?=some x:=by rw[hse];simp
  have k2:decide (((e.length+1:Nat):Int)<(s.length:Int))=true:=by rw[hse];simp;omega
  have k3:wr .i64 (((e.length+1:Nat):Int)+1)=(((e++[x]).length+1:Nat):Int):=by
   simp only[big]at hb
   rw[aV (by omega) (by rw[hse]at hb;simp at hb;omega)];simp
  cases b1:decide ((x.toNat:Int)<48)
  case true=>
   have hx:bA x=false:=by
    have:¬ 48<=x.toNat:=by have:=of_decide_eq_true b1;omega
    simp[bA,this]
   simp only[cf160L0,cf160E0,k1,k2,b1,go_sem,seval]
   rw[hev,hI];simp[hx]
  case false=>
  cases b2:decide (57<(x.toNat:Int))
  case true=>
   have hx:bA x=false:=by
    have:¬x.toNat<=57:=by have:=of_decide_eq_true b2;omega
    simp[bA,this]
   simp only[cf160L0,cf160E0,k1,k2,b1,b2,go_sem,seval]
   rw[hev,hI];simp[hx]
  case false=>
  have hx:bA x=true:=by
   have h1:=of_decide_eq_false b1
   have h2:=of_decide_eq_false b2
   simp only[bA,Bool.and_eq_true,decide_eq_true_eq]
   omega
  simp only[cf160L0,cf160E0,k1,k2,b1,b2,k3,go_sem,seval]
  refine⟨rfl,?_⟩
  rw[hI];simp[hx]
theorem c116(hf:pg.fs 116=some cf116)(h160:pg.fs 160=some cf160)(s:Str):Ret pg 116 [.str s.bs] (.bool (decide (s.bs=[105,110,116])||decide (s.bs=[98,111,111,108])||fK s.bs)):=by
 refine Ret.ofX hf ?_
 unfold cf116
 cases b1:decide (s.bs=[105,110,116])
 case true=>
  simp only[b1,go_sem,seval]
 case false=>
 cases b2:decide (s.bs=[98,111,111,108])
 case true=>
  simp only[b1,b2,go_sem,seval]
 case false=>
 simp only[b1,b2,go_sem,seval]
 refine aB (c160 h160 s.bs s.ok) (by simp only[go_sem,seval]) rfl ?_
 simp only[go_sem,seval]
theorem c117(hf:pg.fs 117=some cf117)(h54:∀l:Lin,Ret pg 54 [l.av] (.bool (d9 l)))(h77:∀s:Str,Ret pg 77 [.str s.bs] (.bool (fT s.bs)))(sh:bI):Ret pg 117 [sh.av] (.bool (lI sh)):=by
 refine Ret.ofX hf ?_
 unfold cf117
 have hdb:=sh.dims.ok
 simp only[go_sem,seval]
 refine aI sh.dims.es (fun d r env hp=>hp.get 1=some (0,.blk [.str sh.row.bs,.sl sh.dims.nl (sh.dims.es.map Lin.av) sh.dims.cl] 2 true true false) /\
  env=cf117E0 (.pt 1 0 0) (.int .i64 d.length)/\sh.dims.es.all d9=r.all d9) ?_ ?_ ?_
 ·exact⟨rfl,rfl,rfl⟩
 ·rintro env hp ⟨h1,rfl,hq⟩
  have hq':sh.dims.es.all d9=true:=by rw[hq];rfl
  have f1:decide ((sh.dims.es.length:Int)<(sh.dims.es.length:Int))=false:=by simp
  have hso:lI sh=((decide (sh.row.bs=[])||fT sh.row.bs)&&decide ((sh.dims.es.length:Int)<=6)):=by simp[lI,hq']
  rw[hso]
  cases b1:decide ((sh.dims.es.length:Int)<=6)
  case false=>
   simp only[cf117L0,cf117E0,h1,f1,b1,go_sem,seval]
  case true=>
  cases b2:decide (sh.row.bs=[])
  case true=>
   simp only[cf117L0,cf117E0,h1,f1,b1,b2,go_sem,seval]
  case false=>
  simp only[cf117L0,cf117E0,h1,f1,b1,b2,go_sem,seval]
  refine aB (h77 sh.row) (by simp only[go_sem,seval]) rfl ?_
  simp only[go_sem,seval]
 ·rintro d x r env hp hes ⟨h1,rfl,hq⟩
  have hsb:(d++x::r).length<=big:=by rw[<-hes];exact hdb
  have hget:sh.dims.es[d.length]?=some x:=by rw[hes];simp
  have e1:decide ((d.length:Int)<(sh.dims.es.length:Int))=true:=by rw[hes];simp;omega
  have e2:((d.length:Int)<(sh.dims.es.length:Int))=True:=eq_true (by rw[hes];simp;omega)
  simp only[cf117L0,cf117E0,h1,e1,e2,hget,go_sem,seval]
  refine aB (h54 x) (by simp only[go_sem,seval]) rfl ?_
  simp only[go_sem,seval]
  cases hx:d9 x
  case false=>
   simp only[go_sem,seval]
   simp[lI,hq,hx]
  case true=>
   simp only[aM hsb,go_sem,seval]
   refine⟨h1,rfl,?_⟩
   rw[hq];simp[hx]
theorem c79(hf:pg.fs 79=some cf79)(h116:∀s:Str,Ret pg 116 [.str s.bs] (.bool (decide (s.bs=[105,110,116])||decide (s.bs=[98,111,111,108])||fK s.bs)))(h117:∀sh:bI,Ret pg 117 [sh.av] (.bool (lI sh)))(t:Typ):Ret pg 79 [t.av] (.bool (p9 t)):=by
 refine Ret.ofX hf ?_
 unfold cf79
 simp only[go_sem,seval]
 refine aB (h116 t.elem) (by simp only[go_sem,seval]) rfl ?_
 cases b1:(decide (t.elem.bs=[105,110,116])||decide (t.elem.bs=[98,111,111,108])||fK t.elem.bs)
 case false=>
  simp only[b1,go_sem,seval]
  simp[p9,b1]
 case true=>
  simp only[b1,go_sem,seval]
  have a:=h117 t.shape
  rw[bI.avc]at a
  refine aB (a) (by simp only[go_sem,seval]) rfl ?_
  simp only[go_sem,seval]
  simp[p9,b1]
theorem c78(hf:pg.fs 78=some cf78)(s:List UInt8)(hb:s.length<=big):Ret pg 78 [.str s] (.bool (xC s)):=by
 refine Ret.ofX hf ?_
 unfold cf78
 cases b0:decide ((s.length:Int)=0)
 case true=>
  have:s=[]:=List.eq_nil_of_length_eq_zero (by have:=of_decide_eq_true b0;omega)
  simp only[go_sem,seval]
  refine aI ([]:List UInt8) (fun e r env hp=>env=cf78E0 (.str s) (.int .i64 1)) ?_ ?_ ?_
  ·rfl
  ·rintro env hp rfl
   subst this
   simp only[cf78L0,cf78E0,go_sem,seval]
   rfl
  ·rintro e x r env hp he _
   simp at he
 case false=>
 obtain⟨c,t,hs⟩:∃c t,s=c::t:=by
  cases s with
  |nil=>simp at b0
  |cons c t=>exact⟨c,t,rfl⟩
 have hg0:s[0]?=some c:=by rw[hs];rfl
 have hlt:s.length=t.length+1:=by rw[hs];rfl
 have hev:xC s=(decide (0<t.length)&&((decide ((c.toNat:Int)=105)||decide ((c.toNat:Int)=106))&&t.all bA)):=by
  rw[hs]
  cases t with
  |nil=>rfl
  |cons d u=>simp[xC]
 simp only[go_sem,seval]
 refine aI t (fun e r env hp=>env=cf78E0 (.str s) (.int .i64 ((e.length+1:Nat):Int))/\t.all bA=r.all bA) ?_ ?_ ?_
 ·exact⟨rfl,rfl⟩
 ·rintro env hp ⟨rfl,hI⟩
  have hI':t.all bA=true:=by rw[hI];rfl
  rw[hev,hI',Bool.and_true]
  have hex:decide (((t.length+1:Nat):Int)<(s.length:Int))=false:=by simp;omega
  cases b1:decide (1<(s.length:Int))
  case false=>
   have:¬ 0<t.length:=by have:=of_decide_eq_false b1;omega
   have h0:decide (0<t.length)=false:=decide_eq_false this
   rw[h0]
   simp only[cf78L0,cf78E0,hex,b1,go_sem,seval]
  case true=>
  have:0<t.length:=by have:=of_decide_eq_true b1;omega
  have h0:decide (0<t.length)=true:=decide_eq_true this
  rw[h0]
  cases b2:decide ((c.toNat:Int)=105)
  ·simp only[cf78L0,cf78E0,hex,b1,hg0,b2,go_sem,seval]
  ·simp only[cf78L0,cf78E0,hex,b1,hg0,b2,go_sem,seval]
 ·rintro e x r env hp he ⟨rfl,hI⟩
  have hse:s=(c::e)++x::r:=by rw[hs,he];rfl
  have k1:s[e.length+1]?=some x:=by rw[hse];simp
  have k2:decide (((e.length+1:Nat):Int)<(s.length:Int))=true:=by rw[hse];simp;omega
  have k3:wr .i64 (((e.length+1:Nat):Int)+1)=(((e++[x]).length+1:Nat):Int):=by
   simp only[big]at hb
   rw[aV (by omega) (by rw[hse]at hb;simp at hb;omega)];simp
  cases b1:decide ((x.toNat:Int)<48)
  case true=>
   have hx:bA x=false:=by
    have:¬ 48<=x.toNat:=by have:=of_decide_eq_true b1;omega
    simp[bA,this]
   simp only[cf78L0,cf78E0,k1,k2,b1,go_sem,seval]
   rw[hev,hI];simp[hx]
  case false=>
  cases b2:decide (57<(x.toNat:Int))
  case true=>
   have hx:bA x=false:=by
    have:¬x.toNat<=57:=by have:=of_decide_eq_true b2;omega
    simp[bA,this]
   simp only[cf78L0,cf78E0,k1,k2,b1,b2,go_sem,seval]
   rw[hev,hI];simp[hx]
  case false=>
  have hx:bA x=true:=by
   have h1:=of_decide_eq_false b1
   have h2:=of_decide_eq_false b2
   simp only[bA,Bool.and_eq_true,decide_eq_true_eq]
   omega
  simp only[cf78L0,cf78E0,k1,k2,b1,b2,k3,go_sem,seval]
  refine⟨rfl,?_⟩
  rw[hI];simp[hx]
end
end Go.Tev
end
section
namespace Go.Tev
section
variable{pg:Pg}
end
end Go.Tev
end
section
namespace Go.Tev
theorem fA{α : Type}{q : α -> α -> Bool}(h:∀x,q x x=true):∀l:List α,eqL q l l=true
 |[]=>by simp[eqL]
 |x::r=>by simp[eqL,h x,fA h r]
theorem B7{α : Type}{q : α -> α -> Bool}:∀l:List α,(∀x∈l,q x x=true)->eqL q l l=true
 |[],_=>by simp[eqL]
 |x::r,h=>by simp[eqL,h x (by simp),B7 r (fun y hy=>h y (by simp[hy]))]
theorem FQ(x:bS):fL x x=true:=by simp[fL]
theorem lG(x:Lin):bH x x=true:=by simp[bH,fA FQ]
theorem nN(x:aJ):fC x x=true:=by simp[fC,fA]
theorem qV:∀p:aC,dQ p p=true:=
 aC.ind' fun p ih=>by
  rw[oN,lB,B7 p.kids ih,fA lG,fA nN]
  simp
theorem nV{α β : Type}{q : α -> β -> Bool}(l:List α):eqL q l []=decide ((l.length:Int)=0):=by
 cases l with
 |nil=>simp[eqL]
 |cons x r=>simp[eqL];omega
def gI(α : Type):Sl α:=⟨true,[],true,by simp[big]⟩
def tY(x:aD):aD:=
 ⟨x.kind,x.value,x.space,x.body,if x.kind=2 then x.fn else gI aJ,if x.kind=3 then x.source else 0,if x.kind=3 then x.index else xP,if x.kind=3 then x.check else 0⟩
def jU(a b:aD):Bool:=
 decide (a.kind=b.kind)&&decide (a.value=b.value)&&decide (a.source=b.source)&&decide (a.check=b.check)&&eqL bH a.space.es b.space.es&&dQ a.body b.body&&dQ a.index b.index&&eqL fC a.fn.es b.fn.es
theorem E0(x:aD):jU x (tY x)=((if decide (x.kind=3) then true else !nA x)&&(decide (x.kind=2)||decide ((x.fn.es.length:Int)=0))):=by
 simp only[jU,tY,fA lG,qV,nA]
 by_cases h3:x.kind=3
 ·have h2:¬x.kind=2:=by omega
  simp[h3,qV,gI,nV]
 ·by_cases h2:x.kind=2
  ·simp[h2,fA nN]
  ·simp[h3,h2,gI,nV,Bool.and_assoc]
def bT(k:aA)(p:aC)(n:Nat)(th:List Bool):Bool:=
 gN p (eG k.vars.es n) k.values.es.length&&(bD p).all (fun v=>aY th v)
def kA(k:aA)(q:aD)(i:Nat):Bool:=
 !decide ((i:Int)=0)&&(match k.list.es[((i:Int)-1).toNat]? with|none=>false|some r=>decide (r.kind=1)&&decide (r.value=q.value))
def kC(k:aA)(q:aD)(th:List Bool)(second:Bool):Bool:=
 !(decide (q.value<k.inputs)||decide ((k.values.es.length:Int)<=q.value))&&(jU q (tY q) &&
 (match k.values.es[q.value.toNat]? with
 |none=>false
 |some t=>
  !kT k.values.es q t &&
  (if decide (q.kind=1) then !aY th q.value&&(eqL bH q.space.es t.shape.dims.es&&bT k q.body t.shape.dims.es.length th)
  else if decide (q.kind=2) then !aY th q.value&&(decide (0<(t.shape.dims.es.length:Int))&&(eqL bH q.space.es t.shape.dims.es&&(bT k q.body t.shape.dims.es.length th&&cR q.fn.es 2)))
  else if decide (q.kind=3) then
   !decide ((t.shape.dims.es.length:Int)=0)&&(eqL bH q.space.es t.shape.dims.es.dropLast&&(!decide (q.check<0)&&(!decide (q.source<0)&&(!decide ((k.values.es.length:Int)<=q.source)&&(aY th q.source &&
   ((aY th q.value==decide (q.source=q.value))&&(!(aY th q.value && !second)&&((match k.values.es[q.source.toNat]? with|none=>false|some u=>gG u t) &&
   (bT k q.body (t.shape.dims.es.length-1) (th.set q.value.toNat false)&&bT k q.index (t.shape.dims.es.length-1) (th.set q.value.toNat false))))))))))
  else false)))
theorem GE{th:List Bool}{v a:Int}(hv:0<=v)(ha:0<=a):aY (th.set v.toNat false) a=(aY th a && !decide (a=v)):=by
 simp only[aY,List.getElem?_set]
 by_cases h:a=v
 ·subst h
  by_cases h2:a.toNat<th.length
  ·simp[h2]
  ·simp[h2]
 ·have h1:¬v.toNat=a.toNat:=by omega
  simp[h1,h]
theorem PG{l m:List Int}{p q:Int->Bool}(hm:∀a,a∈l↔a∈m)(h:∀a∈l,p a = !q a):l.all p = !m.any q:=by
 rw[Bool.eq_iff_iff]
 simp only[List.all_eq_true,Bool.not_eq_true',List.any_eq_false]
 constructor
 ·intro g a ha hq
  have:=g a ((hm a).2 ha)
  rw[h a ((hm a).2 ha),hq]at this
  cases this
 ·intro g a ha
  rw[h a ha]
  have:=g a ((hm a).1 ha)
  simpa using this
theorem wL(k:aA)(p:aC)(n:Nat)(th th':List Bool)(nt:Int)(h:∀a,0<=a->aY th' a=(aY th a && !decide (a=nt))):bT k p n th'=eC k th p n nt:=by
 simp only[bT,eC]
 cases hp:gN p (eG k.vars.es n) k.values.es.length
 ·rfl
 ·simp only[Bool.true_and]
  simp only[gN,Bool.and_eq_true]at hp
  refine PG (fun a=>?_) (fun a ha=>?_)
  ·rw[iM,bR,lD,mK]
  ·rw[iM]at ha
   obtain⟨h4,h5⟩:=nL _ p _ hp.2 a ha
   rw[h a h4]
   cases aY th a<;>simp
theorem E1(k:aA)(q:aD)(i:Nat):C4 k q i=(!decide (q.kind=3) || !decide (q.source=q.value) || !kA k q i):=by
 simp only[C4,kA]
 cases h1:decide ((i:Int)=0)
 ·simp only[Bool.or_false,Bool.not_false,Bool.true_and]
  cases h2:k.list.es[((i:Int)-1).toNat]? with
  |none=>simp
  |some r=>dsimp only;cases decide (r.kind=1)<;>cases decide (r.value=q.value)<;>simp
 ·simp
theorem EJ(k:aA)(q:aD)(th:List Bool)(i:Nat)(hin:0<=k.inputs):kC k q th (kA k q i)=bL k th q i:=by
 simp only[kC,bL,E0,E1,tA]
 cases o1:decide (q.value<k.inputs)
 case true=>simp
 cases o2:decide ((k.values.es.length:Int)<=q.value)
 case true=>simp
 have hv:0<=q.value:=by simp at o1;omega
 cases ht:k.values.es[q.value.toNat]? with
 |none=>simp
 |some t=>
 simp only[Bool.or_false,Bool.not_false,Bool.true_and,Bool.false_or]
 cases hb:kT k.values.es q t
 case true=>simp
 simp only[Bool.not_false,Bool.true_and]
 have key:∀p n,aY th q.value=false->bT k p n th=eC k th p n (-1):=by
  intro p n _
  refine wL k p n th th (-1) (fun a ha=>?_)
  have:¬a = -1:=by omega
  simp[this]
 have key3:∀p n,bT k p n (th.set q.value.toNat false)=eC k th p n (if aY th q.value then q.value else -1):=by
  intro p n
  refine wL k p n th _ _ (fun a ha=>?_)
  rw[GE hv ha]
  cases hto:aY th q.value
  ·by_cases hav:a=q.value
   ·subst hav
    simp[hto]
   ·have:¬a = -1:=by omega
    simp[hav,this]
  ·simp
 by_cases h3:q.kind=3
 ·have h1:¬q.kind=1:=by omega
  have h2:¬q.kind=2:=by omega
  simp only[h1,h2,h3,decide_true,decide_false,if_true,if_false,Bool.true_and,Bool.false_or,Bool.not_true,qC,sD,uG,key3,Bool.false_eq_true]
  simp only[show ∀n:Nat,((n:Int)=0)=(n=0) from fun n=>by simp]
  have hfn:decide (0<(q.fn.es.length:Int)) = !decide (q.fn.es.length=0):=by
   by_cases h:q.fn.es.length=0<;>simp[h];omega
  rw[hfn,List.length_dropLast]
  cases decide (q.fn.es.length=0)
  ·simp
  simp only[Bool.true_and,Bool.not_true,Bool.or_false]
  cases decide (t.shape.dims.es.length=0)
  case true=>simp
  cases hc:decide (q.check<0)
  case true=>simp
  cases s1:decide (q.source<0)
  case true=>simp
  cases s2:decide ((k.values.es.length:Int)<=q.source)
  case true=>simp
  cases s3:aY th q.source
  case false=>simp
  simp only[Bool.not_false,Bool.true_and,Bool.or_false,Bool.not_true,Bool.false_or]
  cases hsv:decide (q.source=q.value)
  ·cases hto:aY th q.value
   ·simp only[beq_self_eq_true,Bool.true_and,Bool.false_and,Bool.not_false,Bool.false_eq_true,if_false]
    cases k.values.es[q.source.toNat]? with
    |none=>simp
    |some u=>dsimp only;cases gG u t<;>simp
   ·simp
  ·have hsv':q.source=q.value:=by simpa using hsv
   rw[hsv']at s3 ⊢
   simp only[s3,beq_self_eq_true,Bool.true_and,Bool.not_true,Bool.false_or,if_true,ht]
   cases kA k q i<;>cases gG t t<;>simp
 ·simp only[h3,decide_false,if_false,Bool.false_eq_true,Bool.not_false,Bool.true_or,Bool.and_true,qC,sD]
  cases hpl:nA q
  case true=>simp
  have hck:decide (q.check<0)=false:=by
   simp only[nA,Bool.or_eq_false_iff,Bool.not_eq_false',decide_eq_true_eq]at hpl
   simp[hpl.1.2]
  simp only[hck,Bool.not_false,Bool.true_and]
  by_cases h1:q.kind=1
  ·have h2:¬q.kind=2:=by omega
   simp only[h1,h2,decide_true,decide_false,if_true,Bool.false_or]
   cases hto:aY th q.value
   ·rw[key _ _ hto]
    simp only[Bool.false_eq_true,if_false]
    cases decide ((q.fn.es.length:Int)=0)<;>simp
   ·simp
  ·by_cases h2:q.kind=2
   ·simp only[h1,h2,decide_true,decide_false,if_true,if_false,Bool.true_or,Bool.false_eq_true,Bool.true_and]
    cases hto:aY th q.value
    ·rw[key _ _ hto]
     simp only[Bool.false_eq_true,if_false]
     cases decide (0<(t.shape.dims.es.length:Int))<;>cases eqL bH q.space.es t.shape.dims.es<;>cases cR q.fn.es 2<;>simp
    ·simp
   ·simp[h1,h2]
end Go.Tev
end
