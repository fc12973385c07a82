import Derived.Test.YtmcadllokkmeiaaGreatDoorSAT
set_option linter.all false
section
namespace Go.Tev
def fK(x:Int):List Int->List Int
 |[]=>[x]
 |y::r=>if decide (y<x) then y::fK x r else if decide (y=x) then y::r else x::y::r
theorem xK{x:Int}:∀(d rest:List Int),(∀y∈d,y<x)->fK x (d++rest)=d++fK x rest
 |[],rest,_=>rfl
 |y::d,rest,h=>by
  have h1:y<x:=h y (by simp)
  simp only[List.cons_append,fK,h1,decide_true,if_true]
  rw[xK d rest (fun z hz=>h z (List.mem_cons_of_mem _ hz))]
theorem sW{x a:Int}:∀l:List Int,a∈fK x l↔a=x\/a∈l
 |[]=>by simp[fK]
 |y::r=>by
  simp only[fK]
  split
  ·simp only[List.mem_cons,sW r]
   constructor<;>(intro h;rcases h with h|h|h<;>simp[h])
  ·split
   ·rename_i h;simp at h;subst h;simp
   ·simp
theorem xJ(x:Int):∀l:List Int,(fK x l).length<=l.length+1
 |[]=>by simp[fK]
 |y::r=>by
  have:=xJ x r
  simp only[fK]
  split
  ·simp;omega
  ·split<;>simp
def IsL(l:List Int)(r:AV):Prop:=(∃nl cl,r = .sl nl (l.map aH) cl)\/r = .os (l.map aH) 1 false
theorem IsL.of{l:List Int}{r:AV}(h:lO 1 false (l.map aH) r):IsL l r:=by
 rcases h with ⟨he,nl,cl,rfl,_⟩|h
 ·exact .inl ⟨nl,cl,by rw[he]⟩
 ·exact .inr h
section
variable{pg:Pg}
def N2(kb:Nat)(h:Hp)(k1:Nat)(l:List Int)(r:AV)(h':Hp):Prop:=
 ∃k2,Own h' k2 1 false r (l.map aH)/\(k2=k1\/k2=kb+5\/k2=kb+9)/\∀k,k≠kb+1->k≠kb+5->k≠kb+9->h'.get k=h.get k
theorem t8{h:Hp}{k e:Nat}{l:List Int}(hg:h.get k=some (e,.blk (l.map aH) 1 false false false)){n:Nat}(hn:n=l.length):Own h k 1 false (.rf k e 0 n n) (l.map aH):=by
 subst hn
 exact .inr ⟨e,_,by simp,hg,fM l⟩
theorem xW(l:List Int):(l.map aH).all (fun v=>v.cells.length==1)=true:=by
 rw[List.all_eq_true]
 intro x hx
 obtain⟨y,_,rfl⟩:=List.mem_map.1 hx
 rfl
theorem NP(nl cl:Bool)(d rest:List Int):∃c,∀h,gD h 1 false true false [.sl nl ((d++rest).map aH) cl,.int .i64 (d.length:Int)]=some (.sl nl (d.map aH) c,.pat [] []):=by
 refine⟨(nl||cl)&&((d.length:Int)==((((d++rest).map aH).length:Nat):Int)),fun h=>?_⟩
 simp only[gD,gM,gW,Bool.false_eq_true,if_false,if_true,Option.getD_none,Option.getD_some,xW,Option.isSome_none]
 rw[if_pos ⟨by omega,by omega,by omega,by simp only[List.length_map,List.length_append];omega,trivial⟩]
 simp[val]
theorem CP(nl cl:Bool)(d rest:List Int):∃c,∀h,gD h 1 true false false [.sl nl ((d++rest).map aH) cl,.int .i64 (d.length:Int)]=some (.sl nl (rest.map aH) c,.pat [] []):=by
 refine⟨(nl||cl)&&true,fun h=>?_⟩
 simp only[gD,gM,gW,Bool.false_eq_true,if_false,if_true,Option.getD_none,Option.getD_some,xW,Option.isSome_none]
 rw[if_pos ⟨by omega,by simp only[List.length_map,List.length_append];omega,by omega,by omega,trivial⟩]
 have e:((d++rest).map aH).drop (d.length:Int).toNat=rest.map aH:=by
  rw[Int.toNat_natCast,List.map_append,List.drop_left' (by simp)]
 rw[e,List.take_of_length_le (by simp only[List.length_map,List.length_append];omega)]
 simp[val]
theorem v6:∀l:List Int,bQ (l.map aH)=true
 |[]=>rfl
 |x::r=>by simp only[List.map_cons,bQ,v6 r];rfl
theorem GQ(l:List Int)(a b:Nat):bQ (((l.map aH).drop a).take b)=true:=by
 rw[<-List.map_drop,<-List.map_take];exact v6 _
theorem A8{H:Hp}{k e:Nat}{cs:List AV}{ag ti fz:Bool}(hg:H.get k=some (e,.blk cs 1 ag ti fz)){m n:Nat}(hm:m<=n)(hmx:ti=false) :
  gD H 1 false true false [.rf k e 0 n n,.int .i64 (m:Int)]=some (.rf k e 0 m n,.pat [k] []):=by
 subst hmx
 simp only[gD,gM,gW,Bool.false_eq_true,if_false,if_true,Option.getD_none,Option.getD_some,hg]
 rw[if_pos (by simp;omega)]
 simp
theorem GV{H:Hp}{k e:Nat}{cs:List AV}{ag fz:Bool}(hg:H.get k=some (e,.blk cs 1 ag false fz)){m n:Nat}(hm:m<n) :
  gD H 1 true false false [.rf k e 0 n n,.int .i64 (m:Int)]=some (.rf k e m (n-m) (n-m),.pat [k] []):=by
 simp only[gD,gM,gW,Bool.false_eq_true,if_false,if_true,Option.getD_none,Option.getD_some,hg]
 rw[if_pos (by simp;omega)]
 rw[if_neg (by omega)]
 simp
theorem JY{H:Hp}{k e:Nat}{cs:List AV}{ag fz:Bool}(hg:H.get k=some (e,.blk cs 1 ag false fz)){n:Nat}(hn:n≠0) :
  gD H 1 true false false [.rf k e 0 n n,.int .i64 (n:Int)]=some (.sl false [] false,.pat [k] []):=by
 simp only[gD,gM,gW,Bool.false_eq_true,if_false,if_true,Option.getD_none,Option.getD_some,hg]
 rw[if_neg (by rintro⟨_,_,_,_,_,_,_,h|h|h⟩<;>first|omega|cases h),if_pos (by simp)]
theorem CW{H:Hp}{k e:Nat}{l:List Int}{ag ti fz:Bool}(hg:H.get k=some (e,.blk (l.map aH) 1 ag ti fz)){off m cap:Nat}(hm:off+m<=l.length){xs:List Int}(hx:(l.drop off).take m=xs) :
  aP H 1 false (.rf k e off m cap)=some (xs.map aH,xs.length,[k]):=by
 subst hx
 simp only[aP,hg]
 rw[if_pos ⟨trivial,by simpa using hm,by simpa using GQ l off m⟩]
 simp
 omega
theorem zO{H:Hp}{nl cl:Bool}(xs:List Int):aP H 1 false (.sl nl (xs.map aH) cl)=some (xs.map aH,xs.length,[]):=by
 simp[aP,fM]
theorem x9{H:Hp}{K:Nat}{src:AV}{xs:List Int}{rd:List Nat}(hs:aP H 1 false src=some (xs.map aH,xs.length,rd))(hx:xs≠[])(hl:xs.length<=1073741824) :
  lU H K 1 false 8 [.sl false [] true,src]=some (.rf K (H.next K) 0 xs.length xs.length,.pat (K::rd) [⟨K,H.next K,.blk (xs.map aH) 1 false false false⟩]):=by
 have hn:xs.length≠0:=by simpa using hx
 simp[lU,hs,kJ,hn,hl,bB]
theorem FU{H:Hp}{K:Nat}{src:AV}{rd:List Nat}(hs:aP H 1 false src=some ([],0,rd)) :
  lU H K 1 false 8 [.sl false [] true,src]=some (.sl false [] true,.pat rd []):=by
 simp[lU,hs,kJ]
theorem HC{H:Hp}{K K1 e1:Nat}{es:List Int}(hg:H.get K1=some (e1,.blk (es.map aH) 1 false false false))(hk:K1≠K){src:AV}{xs:List Int}{rd:List Nat}(hs:aP H 1 false src=some (xs.map aH,xs.length,rd))(hx:xs≠[])
  (hl:es.length+xs.length<=1073741824) {n:Nat} (hn:n=es.length) :
  lU H K 1 false 8 [.rf K1 e1 0 n n,src]=some (.rf K (H.next K) 0 (es.length+xs.length) (es.length+xs.length),.pat (K::K1::rd) [⟨K1,e1,.dead⟩,⟨K,H.next K,.blk ((es++xs).map aH) 1 false false false⟩]):=by
 have hx0:xs.length≠0:=by simpa using hx
 subst hn
 have h2:(K1==K)=false:=by simpa using hk
 simp only[lU,hs,kJ,hg,hx0,if_false,true_and,Nat.zero_add,Nat.mul_one]
 rw[if_pos (by simp),if_neg (by omega)]
 simp only[hl,decide_true,Bool.true_and,h2,Bool.not_false,Bool.false_eq_true,if_false,show (8:Nat)<=65536 from by decide,if_true]
 have ht:List.take es.length (List.map aH es)=List.map aH es:=by rw[List.take_of_length_le (by simp)]
 simp[ht]
theorem FT{H:Hp}{K K1 e1:Nat}{es:List Int}(hg:H.get K1=some (e1,.blk (es.map aH) 1 false false false)){src:AV}{rd:List Nat}(hs:aP H 1 false src=some ([],0,rd)){n:Nat}(hn:n=es.length) :
  lU H K 1 false 8 [.rf K1 e1 0 n n,src]=some (.rf K1 e1 0 n n,.pat (K1::rd) []):=by
 subst hn
 simp only[lU,hs,kJ,hg]
 rw[if_pos (by simp)]
 simp
attribute [local go_sem] Nat.left_eq_add Nat.add_eq_left
theorem aBW{f:Nat}(hf:pg.fs f=some cf55)(kb:Nat)(h:Hp)(k1 e:Nat)(l:List Int)(hb:l.length<big)(x:Int)(hg:h.get k1=some (e,.blk (l.map aH) 1 false false false))
  (n1:(k1=kb+1)=False) (n5:(k1=kb+5)=False) (n9:(k1=kb+9)=False) (hne:l≠[]) :
  gT pg f [.rf k1 e 0 l.length l.length,.int .i64 x] kb h (N2 kb h k1 (fK x l)):=by
 have n1':(kb+1=k1)=False:=by rw[<-n1];exact propext eq_comm
 have n5':(kb+5=k1)=False:=by rw[<-n5];exact propext eq_comm
 have n9':(kb+9=k1)=False:=by rw[<-n9];exact propext eq_comm
 refine gT.ofX hf ?_
 unfold cf55
 simp only[big]at hb
 simp only[go_sem,seval]
 refine aG l (fun d r env hp=>env=cf55E0 (.rf k1 e 0 l.length l.length) (.int .i64 x) (.int .i64 d.length)/\hp=h/\∀y∈d,y<x) ?_ ?_ ?_
 ·exact⟨rfl,rfl,by simp⟩
 ·rintro env hp ⟨rfl,rfl,hI⟩
  have s2:∀H,aP H 1 false (.sl false [.int .i64 x] true)=some ([x].map aH,[x].length,[]):=fun H=>zO [x]
  have s0:∀H,aP H 1 false (.sl false [] false)=some ([],0,[]):=fun H=>zO []
  have hl':l=l++[]:=by simp
  have hres:fK x l=l++[x]:=by
   have:=xK l [] hI
   rwa [List.append_nil]at this
  have hd0:l≠[]:=hne
  have hlo:=A8 (H:=hp) hg (m:=(l).length) (n:=l.length) (by omega) rfl
  simp only[cf55L0,cf55E0,↓hlo,go_sem,seval]
  have s1:=CW (off:=0) (m:=(l).length) (cap:=l.length) (xs:=l) hg (by omega) (by rw[hl'];simp)
  rw[gF,x9 s1 hd0 (by omega)]
  simp only[n1,n5,n9,n1',n5',n9',go_sem,seval]
  rw[gF,HC (es:=l) (xs:=[x]) (by rw[aD,if_pos rfl]) (by omega) (s2 _) (by simp) (by simp;omega) rfl]
  have hhi:∀H:Hp,H.get k1=hp.get k1->gD H 1 true false false [.rf k1 e 0 l.length l.length,.int .i64 (l.length:Int)]=some (.sl false [] false,.pat [k1] []):=fun H h=>JY (h.trans hg) (by simpa using hne)
  simp only[n1,n5,n9,n1',n5',n9',hg,↓hhi,go_sem,seval]
  rw[gF,FT (es:=l++[x]) (by rw[aD,if_pos rfl]) (s0 _) (by simp)]
  simp only[n1,n5,n9,n1',n5',n9',go_sem,seval]
  refine⟨by simp[gE,iU,R.apart,R.uses,X.tmp,Eff.apart,yZ,n1,n5,n9,n1',n5',n9',Nat.testBit],?_⟩
  rw[hres]
  refine⟨kb+5,t8 (by simp only[aD,if_true,Nat.reduceEqDiff,Nat.left_eq_add,Nat.add_eq_left,if_false,List.nil_append,List.append_assoc,List.singleton_append,List.cons_append]) (by simp),by simp,?_⟩
  intro k q1 q5 q9
  simp only[aD,Ne.symm q1,Ne.symm q5,Ne.symm q9,if_false]
 ·rintro d y r env hp hes ⟨rfl,rfl,hI⟩
  have hb':(d++y::r).length<16777216:=by rw[<-hes];exact hb
  have hb2:(d++y::r).length<=big:=by simp only[big];omega
  have hw:=aM hb2
  have hget:l[d.length]?=some y:=by rw[hes];simp
  have hlt:d.length<l.length:=by rw[hes];simp
  have e1:decide ((d.length:Int)<(l.length:Int))=true:=by simp;omega
  have e2:((d.length:Int)<(l.length:Int))=True:=eq_true (by omega)
  cases hyx:decide (y<x)
  case true=>
   simp only[cf55L0,cf55E0,e1,e2,hg,Nat.mul_one,Nat.zero_add,hget,hyx,hw,go_sem,seval]
   refine⟨rfl,?_⟩
   intro z hz
   rw[List.mem_append,List.mem_singleton]at hz
   rcases hz with hz|rfl
   ·exact hI z hz
   ·simpa using hyx
  case false=>
   have hp2:=xK d (y::r) hI
   rw[<-hes]at hp2
   have hp3:fK x (y::r)=if decide (y=x) then y::r else x::y::r:=by rw[fK,hyx];rfl
   cases hye:decide (y=x)
   case true=>
    have hres:fK x l=l:=by rw[hp2,hp3,hye,hes];rfl
    simp only[cf55L0,cf55E0,e1,e2,hg,Nat.mul_one,Nat.zero_add,hget,hyx,hye,go_sem,seval]
    rw[hres]
    exact⟨k1,t8 hg rfl,.inl rfl,fun _ _ _ _=>rfl⟩
   case false=>
    have hres:fK x l=d++x::y::r:=by rw[hp2,hp3,hye];rfl
    have hl':l=d++(y::r):=hes
    have s2:∀H,aP H 1 false (.sl false [.int .i64 x] true)=some ([x].map aH,[x].length,[]):=fun H=>zO [x]
    have s0:∀H,aP H 1 false (.sl false [] false)=some ([],0,[]):=fun H=>zO []
    have hll:l.length=d.length+(r.length+1):=by rw[hes];simp
    rcases List.eq_nil_or_concat d with hdn|⟨d1,d2,hdc⟩
    ·subst hdn
     have e1:decide ((0:Int)<(l.length:Int))=true:=by simp;omega
     have e2:((0:Int)<(l.length:Int))=True:=eq_true (by omega)
     have hget:l[0]?=some y:=by rw[hes];simp
     have hlo:gD hp 1 false true false [.rf k1 e 0 l.length l.length,.int .i64 0]=some (.rf k1 e 0 0 l.length,.pat [k1] []):=A8 (H:=hp) hg (m:=0) (n:=l.length) (by omega) rfl
     simp only[cf55L0,cf55E0,e1,e2,hg,Nat.mul_one,Nat.zero_add,hget,hyx,hye,↓hlo,go_sem,seval]
     have s1:=CW (off:=0) (m:=0) (cap:=l.length) (xs:=[]) hg (by omega) (by simp)
     rw[gF,FU s1]
     simp only[n1,n5,n9,n1',n5',n9',go_sem,seval]
     rw[gF,x9 (xs:=[x]) (s2 _) (by simp) (by simp)]
     have hhi:∀H:Hp,H.get k1=hp.get k1->gD H 1 true false false [.rf k1 e 0 l.length l.length,.int .i64 0]=some (.rf k1 e 0 (l.length-0) (l.length-0),.pat [k1] []):=fun H h=>GV (h.trans hg) (by omega)
     simp only[n1,n5,n9,n1',n5',n9',hg,↓hhi,go_sem,seval]
     have s3:∀H:Hp,H.get k1=hp.get k1->aP H 1 false (.rf k1 e 0 (l.length-0) (l.length-0))=some (((y::r)).map aH,((y::r)).length,[k1]):=fun H h=>CW (h.trans hg) (by omega) (by rw[hl'];simp)
     rw[gF,HC (es:=[x]) (xs:=(y::r)) (by rw[aD,if_pos rfl];rfl) (by omega) (s3 _ (by simp only[aD,n1',n5',n9',if_false])) (by simp) (by simp;omega) (by simp)]
     simp only[n1,n5,n9,n1',n5',n9',go_sem,seval]
     refine⟨by simp[gE,iU,R.apart,R.uses,X.tmp,Eff.apart,yZ,n1,n5,n9,n1',n5',n9',Nat.testBit],?_⟩
     rw[hres]
     refine⟨kb+9,t8 (by simp only[aD,if_true,Nat.reduceEqDiff,Nat.left_eq_add,Nat.add_eq_left,if_false,List.nil_append,List.append_assoc,List.singleton_append,List.cons_append];rfl) (by simp;omega),by simp,?_⟩
     intro k q1 q5 q9
     simp only[aD,Ne.symm q1,Ne.symm q5,Ne.symm q9,if_false]
    ·have hd0:d≠[]:=by rw[hdc];simp
     have hlo:=A8 (H:=hp) hg (m:=(d).length) (n:=l.length) (by omega) rfl
     simp only[cf55L0,cf55E0,e1,e2,hg,Nat.mul_one,Nat.zero_add,hget,hyx,hye,↓hlo,go_sem,seval]
     have s1:=CW (off:=0) (m:=(d).length) (cap:=l.length) (xs:=d) hg (by omega) (by rw[hl'];simp)
     rw[gF,x9 s1 hd0 (by omega)]
     simp only[n1,n5,n9,n1',n5',n9',go_sem,seval]
     rw[gF,HC (es:=d) (xs:=[x]) (by rw[aD,if_pos rfl]) (by omega) (s2 _) (by simp) (by simp;omega) rfl]
     have hhi:∀H:Hp,H.get k1=hp.get k1->gD H 1 true false false [.rf k1 e 0 l.length l.length,.int .i64 ((((d).length):Nat):Int)]=some (.rf k1 e (d).length (l.length-(d).length) (l.length-(d).length),.pat [k1] []):=fun H h=>GV (h.trans hg) (by omega)
     simp only[n1,n5,n9,n1',n5',n9',hg,↓hhi,go_sem,seval]
     have s3:∀H:Hp,H.get k1=hp.get k1->aP H 1 false (.rf k1 e (d).length (l.length-(d).length) (l.length-(d).length))=some (((y::r)).map aH,((y::r)).length,[k1]):=fun H h=>CW (h.trans hg) (by omega) (by rw[hl'];simp)
     rw[gF,HC (es:=d++[x]) (xs:=(y::r)) (by rw[aD,if_pos rfl]) (by omega) (s3 _ (by simp only[aD,n1',n5',n9',if_false])) (by simp) (by simp;omega) (by simp)]
     simp only[n1,n5,n9,n1',n5',n9',go_sem,seval]
     refine⟨by simp[gE,iU,R.apart,R.uses,X.tmp,Eff.apart,yZ,n1,n5,n9,n1',n5',n9',Nat.testBit],?_⟩
     rw[hres]
     refine⟨kb+9,t8 (by simp only[aD,if_true,Nat.reduceEqDiff,Nat.left_eq_add,Nat.add_eq_left,if_false,List.nil_append,List.append_assoc,List.singleton_append,List.cons_append]) (by simp;omega),by simp,?_⟩
     intro k q1 q5 q9
     simp only[aD,Ne.symm q1,Ne.symm q5,Ne.symm q9,if_false]
theorem aBV{f:Nat}(hf:pg.fs f=some cf55)(kb:Nat)(h:Hp)(k1:Nat)(nl cl:Bool)(x:Int) :
  gT pg f [.sl nl [] cl,.int .i64 x] kb h (N2 kb h k1 [x]):=by
 have s2:∀H,aP H 1 false (.sl false [.int .i64 x] true)=some ([x].map aH,[x].length,[]):=fun H=>zO [x]
 have s0:∀H nl cl,aP H 1 false (.sl nl [] cl)=some ([],0,[]):=fun H nl cl=>by simp[aP,bB]
 obtain⟨c1,q1⟩:=NP nl cl [] []
 obtain⟨c2,q2⟩:=CP nl cl [] []
 simp only[List.append_nil,List.map_nil,List.length_nil,Int.natCast_zero]at q1 q2
 refine gT.ofX hf ?_
 unfold cf55
 simp only[go_sem,seval]
 rw[l7]
 simp only[cf55L0,cf55M0,Tev.clear,↓q1,go_sem,seval]
 rw[gF,FU (s0 _ _ _)]
 simp only[go_sem,seval]
 rw[gF,x9 (xs:=[x]) (s2 _) (by simp) (by simp)]
 simp only[↓q2,go_sem,seval]
 rw[gF,FT (es:=[x]) (by rw[aD,if_pos rfl];rfl) (s0 _ _ _) (by simp)]
 simp only[go_sem,seval]
 refine⟨by simp[gE,iU,R.apart,R.uses,X.tmp,Eff.apart,yZ,Nat.testBit],?_⟩
 refine⟨kb+5,t8 (l:=[x]) (by rw[aD,if_pos rfl];rfl) rfl,by simp,?_⟩
 intro k q1 q5 q9
 simp only[aD,Ne.symm q5,if_false]
theorem aBX{f:Nat}(hf:pg.fs f=some cf55)(kb:Nat)(h:Hp)(k1 e:Nat)(x:Int)(hg:h.get k1=some (e,.blk [] 1 false false false))
  (n1:(k1=kb+1)=False) (n5:(k1=kb+5)=False) (n9:(k1=kb+9)=False) :
  gT pg f [.rf k1 e 0 0 0,.int .i64 x] kb h (N2 kb h k1 [x]):=by
 have n1':(kb+1=k1)=False:=by rw[<-n1];exact propext eq_comm
 have n5':(kb+5=k1)=False:=by rw[<-n5];exact propext eq_comm
 have n9':(kb+9=k1)=False:=by rw[<-n9];exact propext eq_comm
 have s2:∀H,aP H 1 false (.sl false [.int .i64 x] true)=some ([x].map aH,[x].length,[]):=fun H=>zO [x]
 have s0:∀H:Hp,H.get k1=h.get k1->aP H 1 false (.rf k1 e 0 0 0)=some ([],0,[k1]):=fun H hh=>by simp[aP,hh,hg,bQ]
 have q1:∀H:Hp,H.get k1=h.get k1->gD H 1 false true false [.rf k1 e 0 0 0,.int .i64 0]=some (.rf k1 e 0 0 0,.pat [k1] []):=fun H hh=>by simp[gD,gM,gW,hh,hg]
 have q2:∀H:Hp,H.get k1=h.get k1->gD H 1 true false false [.rf k1 e 0 0 0,.int .i64 0]=some (.rf k1 e 0 0 0,.pat [k1] []):=fun H hh=>by simp[gD,gM,gW,hh,hg]
 refine gT.ofX hf ?_
 unfold cf55
 simp only[go_sem,seval]
 rw[l7]
 simp only[cf55L0,cf55M0,Tev.clear,↓q1,go_sem,seval]
 rw[gF,FU (s0 _ rfl)]
 simp only[go_sem,seval]
 rw[gF,x9 (xs:=[x]) (s2 _) (by simp) (by simp)]
 simp only[n1,n5,n9,n1',n5',n9',↓q2,go_sem,seval]
 rw[gF,FT (es:=[x]) (by rw[aD,if_pos rfl];rfl) (s0 _ (by simp only[aD,n1',n5',n9',if_false])) (by simp)]
 simp only[go_sem,seval]
 refine⟨by simp[gE,iU,R.apart,R.uses,X.tmp,Eff.apart,yZ,Nat.testBit,n1,n5,n9,n1',n5',n9'],?_⟩
 refine⟨kb+5,t8 (l:=[x]) (by rw[aD,if_pos rfl];rfl) rfl,by simp,?_⟩
 intro k q1 q5 q9
 simp only[aD,Ne.symm q5,if_false]
theorem aBU{f:Nat}(hf:pg.fs f=some cf55){kb:Nat}{h:Hp}{k1:Nat}{v:AV}{l:List Int}(o:Own h k1 1 false v (l.map aH))(hb:l.length<big)(x:Int)(n1:k1≠kb+1)(n5:k1≠kb+5)(n9:k1≠kb+9) :
  gT pg f [v,.int .i64 x] kb h (N2 kb h k1 (fK x l)):=by
 rcases o with ⟨he,nl,cl,rfl,_⟩|⟨e,cs,rfl,hg,hu⟩
 ·have:l=[]:=by simpa using he
  subst this
  exact aBV hf kb h k1 nl cl x
 ·rw[fM]at hu
  cases hu
  by_cases hl:l=[]
  ·subst hl
   exact aBX hf kb h k1 e x hg (eq_false n1) (eq_false n5) (eq_false n9)
  ·have:=aBW hf kb h k1 e l hb x hg (eq_false n1) (eq_false n5) (eq_false n9) hl
   simpa using this
end
end Go.Tev
end
section
namespace Go.Tev
def gQ(acc l:List Int):List Int:=l.foldl (fun a x=>fK x a) acc
mutual
def aW:aC->List Int
 |.mk op _ value _ _ _ _ _ _ kids _=>cO (if decide (op.bs=[114,101,97,100]) then fK value [] else []) kids
def cO:List Int->List aC->List Int
 |acc,[]=>acc
 |acc,p::r=>cO (gQ acc (aW p)) r
end
theorem tY(p:aC):aW p=cO (if decide (p.op.bs=[114,101,97,100]) then fK p.value [] else []) p.kids:=by cases p;rw[aW];rfl
theorem kU:∀(l acc:List Int),(gQ acc l).length<=acc.length+l.length
 |[],acc=>by simp[gQ]
 |x::r,acc=>by
  have h1:=kU r (fK x acc)
  have h2:=xJ x acc
  simp only[gQ,List.foldl_cons,List.length_cons]at *
  omega
theorem rU(acc d:List Int)(x:Int):gQ acc (d++[x])=fK x (gQ acc d):=by simp[gQ]
theorem qQ{a:Int}:∀(l acc:List Int),a∈gQ acc l↔a∈acc\/a∈l
 |[],acc=>by simp[gQ]
 |x::r,acc=>by
  have h1:=qQ (a:=a) r (fK x acc)
  simp only[gQ,List.foldl_cons]at *
  rw[h1,sW,List.mem_cons]
  constructor
  ·rintro((h|h)|h)<;>simp[h]
  ·rintro(h|h|h)<;>simp[h]
theorem oP:∀(d:List aC)(acc:List Int)(x:aC),cO acc (d++[x])=gQ (cO acc d) (aW x)
 |[],acc,x=>by simp[cO]
 |y::d,acc,x=>by simp only[List.cons_append,cO];exact oP d _ x
mutual
theorem iC:∀p:aC,(aW p).length<=p.sz
 |.mk op _ value _ _ _ _ _ _ kids _=>by
  have h:=nB kids (if decide (op.bs=[114,101,97,100]) then fK value [] else [])
  rw[aW,aC.sz]
  split at h<;>simp_all [fK]<;>omega
theorem nB:∀(l:List aC)(acc:List Int),(cO acc l).length<=acc.length+aC.szL l
 |[],acc=>by simp[cO]
 |p::r,acc=>by
  have h1:=iC p
  have h2:=nB r (gQ acc (aW p))
  have h3:=kU (aW p) acc
  simp only[cO,aC.szL]at *
  omega
end
mutual
theorem iD(a:Int):∀p:aC,a∈aW p↔a∈dA p
 |.mk op _ value _ _ _ _ _ _ kids _=>by
  have h:=vM a kids (if decide (op.bs=[114,101,97,100]) then fK value [] else [])
  rw[aW,dA,h,List.mem_append]
  cases decide (op.bs=[114,101,97,100])<;>simp[fK]
theorem vM(a:Int):∀(l:List aC)(acc:List Int),a∈cO acc l↔a∈acc\/a∈gA l
 |[],acc=>by simp[cO,gA]
 |p::r,acc=>by
  have h1:=iD a p
  have h2:=vM a r (gQ acc (aW p))
  rw[cO,h2,qQ,h1,gA,List.mem_append,or_assoc]
end
def gI(q:aE):List Int:=
 if decide (q.kind=3) then
  (let l:=gQ (aW q.body) (aW q.index)
   if decide (q.source=q.value) then l else fK q.source l)
 else aW q.body
section
variable{pg:Pg}
theorem GP(s:Nat)(v:AV)(x:Int):∃B,jT 0 s [v,.int .i64 x]=B/\65536<=B/\∀k e o l c,v = .rf k e o l c->k≠B+1/\k≠B+5/\k≠B+9:=by
 refine⟨_,rfl,?_,?_⟩
 ·simp only[jT];split<;>omega
 ·rintro k e o l c rfl
  simp only[jT,List.any_cons,List.any_nil,Bool.or_false]
  split
  ·rename_i h
   simp only[Bool.and_eq_true,decide_eq_true_eq]at h
   omega
  ·rename_i h
   simp only[Bool.and_eq_true,decide_eq_true_eq,not_and]at h
   omega
theorem yS{f s:Nat}{h:Hp}{k1:Nat}{v:AV}{l:List Int}{x:Int}{Q:AV->Eff->Prop}{t:Tok Q}(hf:pg.fs f=some cf55)(o:Own h k1 1 false v (l.map aH))(hb:l.length<big)
  (q:∀r h' k2,Own h' k2 1 false r ((fK x l).map aH)->(∀k,k<65536->h'.get k=h.get k)->Q r (.whole h')):XO pg 0 (.call f false true) s h [v,.int .i64 x] Q t:=by
 obtain⟨B,hB,hB1,hB2⟩:=GP s v x
 have key:∃k1,Own h k1 1 false v (l.map aH)/\k1≠B+1/\k1≠B+5/\k1≠B+9:=by
  rcases o with ⟨he,nl,cl,rfl,hc⟩|⟨e,cs,rfl,hg,hu⟩
  ·exact⟨B,.inl ⟨he,nl,cl,rfl,hc⟩,by omega,by omega,by omega⟩
  ·exact⟨k1,.inr ⟨e,cs,rfl,hg,hu⟩,hB2 _ _ _ _ _ rfl⟩
 obtain⟨k1',o',a1,a5,a9⟩:=key
 refine u5 (.inl rfl) hB (aBU hf o' hb x a1 a5 a9) ?_
 rintro r h' ⟨k2,p1,_,p3⟩
 exact q r h' k2 p1 (fun k hk=>p3 k (by omega) (by omega) (by omega))
theorem c37(hf:pg.fs 37=some cf37)(h55:pg.fs 55=some cf55):∀p:aC,p.ok->p.sz<=big->bL pg 37 [p.av] (lO 1 false ((aW p).map aH)):=by
 refine aC.ind' fun p ih hp hsz=>?_
 obtain⟨hb,hk⟩:=(aC.ok_iff p).1 hp
 have hz:=aC.sz_eq p
 refine bL.ofX hf ?_
 unfold cf37
 simp only[go_sem,seval]
 cases hr:decide (p.op.bs=[114,101,97,100])
 case true=>
  simp only[go_sem,seval]
  refine yS (l:=[]) h55 (Own.nil _ 0 _ _ _ _ rfl) (by decide) ?_
  intro v H k1 ho hun
  simp only[go_sem,seval]
  have hres:aW p=cO (fK p.value []) p.kids:=by rw[tY,hr];rfl
  refine aG p.kids (fun d r env hp=>∃v k1,env=cf37E1 (.pt 1 0 0) v (.int .i64 d.length)/\Own hp k1 1 false v ((cO (fK p.value []) d).map aH)/\hp.get 1=some (0,.blk (pV p p.kids) 9 true true false)) ?_ ?_ ?_
  ·exact⟨v,k1,rfl,ho,(hun 1 (by decide)).trans (by simp only[go_sem,seval];rfl)⟩
  ·rintro env hp ⟨v,k1,rfl,ho,h1⟩
   simp only[pV]at h1
   simp only[cf37L1,cf37E1,h1,go_sem,seval]
   rw[hres]
   exact ho.conv (El.ints _)
  ·rintro d x r env hp hes ⟨v,k1,rfl,ho,h1⟩
   have hxm:x∈p.kids:=by rw[hes];simp
   have hxs:x.sz<=big:=by have:=aC.szL_mem hxm;omega
   have hx:=ih x hxm (hk x hxm) hxs
   have hx':=hx
   rw[aC.avc]at hx'
   have hl1:=nB d (fK p.value [])
   have hl2:=iC x
   have hst:(fK p.value []:List Int).length<=1:=by simp[fK]
   have hzz:aC.szL p.kids=aC.szL d+(x.sz+aC.szL r):=by rw[hes,aC.szL_append,aC.szL]
   rw[hes]at h1 hb
   rw[hes]
   have h0:=h1
   simp only[pV]at h1
   have hsno:=oP d (fK p.value []) x
   have hw:=aM hb
   clear ih hk
   simp only[cf37L1,cf37E1,h1,go_sem,seval]
   first|refine j3 hx (by simp only[go_sem,seval]) ?_|refine j3 hx' (by simp only[go_sem,seval]) ?_
   intro nl1 cl1 _
   simp only[go_sem,seval]
   refine aG (aW x) (fun d2 r2 env hp=>∃v k1,env=cf37E0 (.pt 1 0 0) v (.int .i64 d.length) (.sl nl1 ((aW x).map aH) cl1) (.int .i64 d2.length)/\Own hp k1 1 false v ((gQ (cO (fK p.value []) d) d2).map aH)/\hp.get 1=some (0,.blk (pV p (d++x::r)) 9 true true false)) ?_ ?_ ?_
   ·exact⟨v,k1,rfl,ho.mono (by simp only[go_sem,seval]),by simp only[go_sem,seval];exact h0⟩
   ·clear ho h1 h0 hp
    rintro env hp ⟨v,k1,rfl,ho,h0⟩
    simp only[cf37L0,cf37E0,hw,go_sem,seval]
    rw[hsno]
    exact⟨v,k1,rfl,ho,h0⟩
   ·clear ho h1 h0 hp
    rintro d2 y r2 env hp hes2 ⟨v,k1,rfl,ho,h0⟩
    have hd2:d2.length<(aW x).length:=by rw[hes2];simp
    have hget:(aW x)[d2.length]?=some y:=by rw[hes2];simp
    have hpl:=kU d2 (cO (fK p.value []) d)
    have hbb:(gQ (cO (fK p.value []) d) d2).length<big:=by omega
    have f1:decide ((d2.length:Int)<((aW x).length:Int))=true:=by simp;omega
    have f2:((d2.length:Int)<((aW x).length:Int))=True:=eq_true (by omega)
    have hw2:wr .i64 ((d2.length:Int)+1)=((d2++[y]).length:Int):=aM (r:=r2) (by rw[<-hes2];omega)
    have hsn2:=rU (cO (fK p.value []) d) d2 y
    simp only[cf37L0,cf37E0,f1,f2,hget,go_sem,seval]
    refine yS h55 ho hbb ?_
    intro r' h' k2 ho' hun
    simp only[hw2,go_sem,seval]
    rw[hsn2]
    exact⟨r',k2,rfl,ho',(hun 1 (by decide)).trans h0⟩
 case false=>
  simp only[go_sem,seval]
  have hres:aW p=cO ([]) p.kids:=by rw[tY,hr];rfl
  refine aG p.kids (fun d r env hp=>∃v k1,env=cf37E1 (.pt 1 0 0) v (.int .i64 d.length)/\Own hp k1 1 false v ((cO ([]) d).map aH)/\hp.get 1=some (0,.blk (pV p p.kids) 9 true true false)) ?_ ?_ ?_
  ·exact⟨_,0,rfl,Own.nil _ _ _ _ _ _ rfl,by simp only[go_sem,seval];rfl⟩
  ·rintro env hp ⟨v,k1,rfl,ho,h1⟩
   simp only[pV]at h1
   simp only[cf37L1,cf37E1,h1,go_sem,seval]
   rw[hres]
   exact ho.conv (El.ints _)
  ·rintro d x r env hp hes ⟨v,k1,rfl,ho,h1⟩
   have hxm:x∈p.kids:=by rw[hes];simp
   have hxs:x.sz<=big:=by have:=aC.szL_mem hxm;omega
   have hx:=ih x hxm (hk x hxm) hxs
   have hx':=hx
   rw[aC.avc]at hx'
   have hl1:=nB d ([])
   have hl2:=iC x
   have hst:([]:List Int).length<=1:=by simp[fK]
   have hzz:aC.szL p.kids=aC.szL d+(x.sz+aC.szL r):=by rw[hes,aC.szL_append,aC.szL]
   rw[hes]at h1 hb
   rw[hes]
   have h0:=h1
   simp only[pV]at h1
   have hsno:=oP d ([]) x
   have hw:=aM hb
   clear ih hk
   simp only[cf37L1,cf37E1,h1,go_sem,seval]
   first|refine j3 hx (by simp only[go_sem,seval]) ?_|refine j3 hx' (by simp only[go_sem,seval]) ?_
   intro nl1 cl1 _
   simp only[go_sem,seval]
   refine aG (aW x) (fun d2 r2 env hp=>∃v k1,env=cf37E0 (.pt 1 0 0) v (.int .i64 d.length) (.sl nl1 ((aW x).map aH) cl1) (.int .i64 d2.length)/\Own hp k1 1 false v ((gQ (cO ([]) d) d2).map aH)/\hp.get 1=some (0,.blk (pV p (d++x::r)) 9 true true false)) ?_ ?_ ?_
   ·exact⟨v,k1,rfl,ho.mono (by simp only[go_sem,seval]),by simp only[go_sem,seval];exact h0⟩
   ·clear ho h1 h0 hp
    rintro env hp ⟨v,k1,rfl,ho,h0⟩
    simp only[cf37L0,cf37E0,hw,go_sem,seval]
    rw[hsno]
    exact⟨v,k1,rfl,ho,h0⟩
   ·clear ho h1 h0 hp
    rintro d2 y r2 env hp hes2 ⟨v,k1,rfl,ho,h0⟩
    have hd2:d2.length<(aW x).length:=by rw[hes2];simp
    have hget:(aW x)[d2.length]?=some y:=by rw[hes2];simp
    have hpl:=kU d2 (cO ([]) d)
    have hbb:(gQ (cO ([]) d) d2).length<big:=by omega
    have f1:decide ((d2.length:Int)<((aW x).length:Int))=true:=by simp;omega
    have f2:((d2.length:Int)<((aW x).length:Int))=True:=eq_true (by omega)
    have hw2:wr .i64 ((d2.length:Int)+1)=((d2++[y]).length:Int):=aM (r:=r2) (by rw[<-hes2];omega)
    have hsn2:=rU (cO ([]) d) d2 y
    simp only[cf37L0,cf37E0,f1,f2,hget,go_sem,seval]
    refine yS h55 ho hbb ?_
    intro r' h' k2 ho' hun
    simp only[hw2,go_sem,seval]
    rw[hsn2]
    exact⟨r',k2,rfl,ho',(hun 1 (by decide)).trans h0⟩
end
end Go.Tev
end
section
namespace Go.Tev
section
variable{pg:Pg}
theorem c114(hf:pg.fs 114=some cf114)(c:UInt8):Ret pg 114 [.int .u8 (c.toNat:Int)] (.bool (aV c)):=by
 refine Ret.ofX hf ?_
 unfold cf114
 cases b1:decide (48<=(c.toNat:Int))
 ·simp only[b1,go_sem,seval]
  have:¬ 48<=c.toNat:=by have:=of_decide_eq_false b1;omega
  simp[aV,this]
 ·simp only[b1,go_sem,seval]
  have:48<=c.toNat:=by have:=of_decide_eq_true b1;omega
  simp only[aV,this,decide_true,Bool.true_and]
  rw[decide_eq_decide];omega
theorem c115(hf:pg.fs 115=some cf115)(c:UInt8):Ret pg 115 [.int .u8 (c.toNat:Int)] (.bool (fC c)):=by
 refine Ret.ofX hf ?_
 unfold cf115
 cases b1:decide (97<=(c.toNat:Int))
 ·simp only[b1,go_sem,seval]
  have:¬ 97<=c.toNat:=by have:=of_decide_eq_false b1;omega
  simp[fC,this]
 ·simp only[b1,go_sem,seval]
  have:97<=c.toNat:=by have:=of_decide_eq_true b1;omega
  simp only[fC,this,decide_true,Bool.true_and]
  rw[decide_eq_decide];omega
theorem c90(hf:pg.fs 90=some cf90)(n:Int):Ret pg 90 [.int .i64 n] (.bool (lR n)):=by
 refine Ret.ofX hf ?_
 unfold cf90
 cases b1:decide (-1000000<=n)
 ·simp only[b1,go_sem,seval]
  simp[lR,b1]
 ·simp only[b1,go_sem,seval]
  simp[lR,b1]
theorem c77(hf:pg.fs 77=some cf77)(h114:pg.fs 114=some cf114)(h115:pg.fs 115=some cf115)(s:List UInt8)(hb:s.length<=big):Ret pg 77 [.str s] (.bool (fJ s)):=by
 refine Ret.ofX hf ?_
 unfold cf77
 cases b0:decide ((s.length:Int)=0)
 case true=>
  have:s=[]:=List.eq_nil_of_length_eq_zero (by have:=of_decide_eq_true b0;omega)
  simp only[b0,go_sem,seval]
  subst this
  rfl
 case false=>
 obtain⟨c,t,hs⟩:∃c t,s=c::t:=by
  cases s with
  |nil=>simp at b0
  |cons c t=>exact⟨c,t,rfl⟩
 have hg0:s[0]?=some c:=by rw[hs];rfl
 have hlt:s.length=t.length+1:=by rw[hs];rfl
 have hnu:fJ s=(decide (s.length<=30)&&(if c=95 then decide (2<=s.length)&&decide (s.length<=10) && !decide (t.head?=some 48)&&t.all aV else fC c&&t.all (fun x=>fC x||aV x))):=by rw[hs];rfl
 cases b1:decide (30<(s.length:Int))
 case true=>
  simp only[b0,b1,go_sem,seval]
  have:¬s.length<=30:=by have:=of_decide_eq_true b1;omega
  simp[hnu,this]
 case false=>
 have h30:s.length<=30:=by have:=of_decide_eq_false b1;omega
 have hd30:decide (s.length<=30)=true:=decide_eq_true h30
 rw[hnu,hd30,Bool.true_and]
 clear hnu
 simp only[b0,b1,hg0,go_sem,seval]
 have hi0:∀(d:List UInt8)(x:UInt8)(r:List UInt8),s=d++x::r->s[d.length]?=some x/\decide ((d.length:Int)<(s.length:Int))=true/\wr .i64 ((d.length:Int)+1)=((d++[x]).length:Int):=by
  intro d x r he
  refine⟨by rw[he];simp,by rw[he];simp;omega,?_⟩
  exact aM (r:=r) (by rw[<-he];exact hb)
 cases b2:decide ((c.toNat:Int)=95)
 case true=>
  have hc:c=95:=by
   have h:=of_decide_eq_true b2
   exact UInt8.toNat_inj.1 (by simpa using (show c.toNat=95 by omega))
  rw[if_pos hc]
  cases b3:decide ((s.length:Int)<2)
  case true=>
   have:¬ 2<=s.length:=by have:=of_decide_eq_true b3;omega
   simp only[b3,go_sem,seval]
   simp[this]
  case false=>
  have h2:2<=s.length:=by have:=of_decide_eq_false b3;omega
  cases b4:decide (10<(s.length:Int))
  case true=>
   have:¬s.length<=10:=by have:=of_decide_eq_true b4;omega
   simp only[b3,b4,go_sem,seval]
   simp[this]
  case false=>
  have h10:s.length<=10:=by have:=of_decide_eq_false b4;omega
  obtain⟨d,u,ht⟩:∃d u,t=d::u:=by
   cases t with
   |nil=>simp at hlt;omega
   |cons d u=>exact⟨d,u,rfl⟩
  have hg1:s[1]?=some d:=by rw[hs,ht];rfl
  have hhd:t.head?=some d:=by rw[ht];rfl
  cases b5:decide ((d.toNat:Int)=48)
  case true=>
   have hd:d=48:=by
    have h:=of_decide_eq_true b5
    exact UInt8.toNat_inj.1 (by simpa using (show d.toNat=48 by omega))
   simp only[b3,b4,hg1,b5,go_sem,seval]
   simp[hhd,hd]
  case false=>
  have hd:¬d=48:=by
   intro h;subst h
   exact absurd rfl (of_decide_eq_false b5)
  have hres:(decide (2<=s.length)&&decide (s.length<=10) && !decide (t.head?=some 48)&&t.all aV)=t.all aV:=by simp[h2,h10,hhd,hd]
  rw[hres]
  simp only[b3,b4,hg1,b5,go_sem,seval]
  refine aG t (fun e r env hp=>env=cf77E0 (.str s) (.int .i64 ((e.length+1:Nat):Int))/\t.all aV=r.all aV) ?_ ?_ ?_
  ·exact⟨rfl,rfl⟩
  ·rintro env hp ⟨rfl,hI⟩
   have hex:decide (((t.length+1:Nat):Int)<(s.length:Int))=false:=by simp;omega
   simp only[cf77L0,cf77E0,hex,go_sem,seval]
   rw[hI];rfl
  ·rintro e x r env hp he ⟨rfl,hI⟩
   have hse:s=(c::e)++x::r:=by rw[hs,he];rfl
   obtain⟨k1,k2,k3⟩:=hi0 _ _ _ hse
   have k0:(c::e).length=e.length+1:=rfl
   have k4:((c::e)++[x]).length=(e++[x]).length+1:=by simp
   rw[k0]at k1 k2 k3
   rw[k4]at k3
   simp only[cf77L0,cf77E0,k1,k2,go_sem,seval]
   refine aB (c114 h114 x) rfl rfl ?_
   cases hx:aV x
   ·simp only[hx,go_sem,seval]
    rw[hI];simp[hx]
   ·simp only[hx,k3,go_sem,seval]
    refine⟨rfl,?_⟩
    rw[hI];simp[hx]
 case false=>
  have hc:¬c=95:=by
   intro h;subst h
   exact absurd rfl (of_decide_eq_false b2)
  rw[if_neg hc]
  simp only[b2,go_sem,seval]
  refine aG s (fun e r env hp=>env=cf77E1 (.str s) (.int .i64 e.length)/\(e=[]\/(fC c&&t.all (fun x=>fC x||aV x))=r.all (fun x=>fC x||aV x))) ?_ ?_ ?_
  ·exact⟨rfl,.inl rfl⟩
  ·rintro env hp ⟨rfl,hI⟩
   have hex:decide ((s.length:Int)<(s.length:Int))=false:=by simp
   simp only[cf77L1,cf77E1,hex,go_sem,seval]
   rcases hI with h|h
   ·exact absurd h (by rw[hs];simp)
   ·rw[h];rfl
  ·rintro e x r env hp he ⟨rfl,hI⟩
   obtain⟨k1,k2,k3⟩:=hi0 _ _ _ he
   have hI2:(fC c&&t.all (fun x=>fC x||aV x))=((if e=[] then fC x else (fC x||aV x))&&r.all (fun x=>fC x||aV x)):=by
    rcases hI with h|h
    ·subst h
     rw[hs]at he
     simp only[List.nil_append,List.cons.injEq]at he
     obtain⟨rfl,rfl⟩:=he
     simp
    ·by_cases h0:e=[]
     ·subst h0
      rw[hs]at he
      simp only[List.nil_append,List.cons.injEq]at he
      obtain⟨rfl,rfl⟩:=he
      simp
     ·rw[h,if_neg h0];simp
   rw[hI2]
   clear hI hI2
   simp only[cf77L1,cf77E1,k1,k2,go_sem,seval]
   refine aB (c115 h115 x) rfl rfl ?_
   cases hx:fC x
   case true=>
    simp only[hx,k3,go_sem,seval]
    refine⟨rfl,.inr ?_⟩
    split<;>simp
   case false=>
   by_cases h0:e=[]
   ·have h1:decide ((e.length:Int)=0)=true:=by simp[h0]
    simp only[hx,h1,go_sem,seval]
    simp[h0]
   ·have h1:decide ((e.length:Int)=0)=false:=by simp[h0]
    simp only[hx,h1,k1,go_sem,seval]
    refine aB (c114 h114 x) rfl rfl ?_
    cases hy:aV x
    ·simp only[hx,hy,go_sem,seval]
     simp[h0]
    ·simp only[hx,hy,k3,go_sem,seval]
     refine⟨rfl,.inr ?_⟩
     simp[h0]
theorem c54(hf:pg.fs 54=some cf54)(h77:∀s:Str,Ret pg 77 [.str s.bs] (.bool (fJ s.bs)))(h90:pg.fs 90=some cf90)(l:Lin):Ret pg 54 [l.av] (.bool (d9 l)):=by
 refine Ret.ofX hf ?_
 unfold cf54
 simp only[go_sem,seval]
 refine aB (c90 h90 _) (by simp only[go_sem,seval]) rfl ?_
 simp only[go_sem,seval]
 cases h9:lR l.c
 case false=>
  simp only[go_sem,seval]
  simp[d9,h9]
 cases h12:decide (12<(l.ts.es.length:Int))
 case true=>
  simp only[h12,go_sem,seval]
  have:¬(l.ts.es.length:Int)<=12:=by have:=of_decide_eq_true h12;omega
  simp[d9,this]
 simp only[h12,go_sem,seval]
 have hlin:d9 l=mX [] l.ts.es:=by
  have:(l.ts.es.length:Int)<=12:=by have:=of_decide_eq_false h12;omega
  simp[d9,h9,this]
 refine aG l.ts.es (fun d r env hp=>hp.get 1=some (0,.blk [.int .i64 l.c,.sl l.ts.nl (l.ts.es.map bR.av) l.ts.cl] 2 true true false) /\
  env=cf54E0 (.pt 1 0 0) (.int .i64 d.length)/\d9 l=mX d r) ?_ ?_ ?_
 ·exact⟨rfl,rfl,hlin⟩
 ·rintro env hp ⟨h1,rfl,hq⟩
  simp only[cf54L0,cf54E0,h1,go_sem,seval]
  rw[hq];rfl
 ·rintro d x r env hp hes ⟨h1,rfl,hq⟩
  have hb:=l.ts.ok
  have hget:l.ts.es[d.length]?=some x:=by rw[hes];simp
  have e1:decide ((d.length:Int)<(l.ts.es.length:Int))=true:=by rw[hes];simp;omega
  have e2:((d.length:Int)<(l.ts.es.length:Int))=True:=eq_true (by rw[hes];simp;omega)
  have hsb:(d++x::r).length<=big:=by rw[<-hes];exact hb
  simp only[mX]at hq
  simp only[cf54L0,cf54E0,h1,hget,e1,e2,go_sem,seval]
  refine aB (h77 x.v) (by simp only[go_sem,seval]) rfl ?_
  simp only[go_sem,seval]
  cases hn:fJ x.v.bs
  case false=>
   simp only[go_sem,seval]
   refine And.intro (by kernel_rfl) ?_
   simp[hq,hn]
  cases hc:decide (x.c=0)
  case true=>
   simp only[hc,go_sem,seval]
   refine And.intro (by kernel_rfl) ?_
   simp[hq,hc]
  simp only[hc,go_sem,seval]
  refine aB (c90 h90 x.c) (by simp only[go_sem,seval]) rfl ?_
  simp only[go_sem,seval]
  cases hx9:lR x.c
  case false=>
   simp only[go_sem,seval]
   refine And.intro (by kernel_rfl) ?_
   simp[hq,hx9]
  rcases List.eq_nil_or_concat d with hd|⟨d',q,hd⟩
  ·have e3:decide (0<(d.length:Int))=false:=by simp[hd]
   simp only[hx9,e3,aM hsb,go_sem,seval]
   refine And.intro (by kernel_rfl) ⟨h1,rfl,?_⟩
   subst hd
   simp[hq,hx9,hc,hn]
  ·have hd':d=d'++[q]:=by simpa using hd
   have e3:decide (0<(d.length:Int))=true:=by simp[hd']
   have e4:wr .i64 ((d.length:Int)-1)=(d'.length:Int):=by rw[aR (by simp only[hd',List.length_append,List.length_singleton];omega) (by simp only[big,List.length_append]at hsb;omega),hd',List.length_append,List.length_singleton];omega
   have e5:l.ts.es[d'.length]?=some q:=by rw[hes,hd'];simp
   have e6:((d'.length:Int)<(l.ts.es.length:Int))=True:=eq_true (by rw[hes,hd'];simp;omega)
   cases hl:Op.bytesLess q.v.bs x.v.bs
   ·simp only[hx9,e3,e4,e5,e6,h1,hl,go_sem,seval]
    refine And.intro (by kernel_rfl) ?_
    simp[hq,hd',hl]
   ·simp only[hx9,e3,e4,e5,e6,h1,hl,aM hsb,go_sem,seval]
    refine And.intro (by kernel_rfl) ⟨rfl,?_⟩
    simp[hq,hx9,hc,hn,hd',hl]
end
end Go.Tev
end
section
namespace Go.Tev
section
variable{pg:Pg}
theorem vL(l:Lin)(r:List Lin)(vars:List Str):bZ (l::r) vars=(d9 l&&(l.ts.es.all (fun x=>jR vars x.v.bs)&&bZ r vars)):=by
 simp[bZ,Bool.and_assoc]
theorem c80(hf:pg.fs 80=some cf80)(h54:∀l:Lin,Ret pg 54 [l.av] (.bool (d9 l)))(nl cl:Bool)(ls:List Lin)(hb:ls.length<=big)(nl' cl':Bool)(vars:List Str)(hb':vars.length<=big) :
  Ret pg 80 [.sl nl (ls.map Lin.av) cl,.sl nl' (vars.map Str.av) cl'] (.bool (bZ ls vars)):=by
 refine Ret.ofX hf ?_
 unfold cf80
 simp only[go_sem,seval]
 refine aG ls (fun d r env hp=>env=cf80E2 (.sl nl (ls.map Lin.av) cl) (.sl nl' (vars.map Str.av) cl') (.int .i64 d.length)/\bZ ls vars=bZ r vars) ?_ ?_ ?_
 ·exact⟨rfl,rfl⟩
 ·rintro env hp ⟨rfl,hI⟩
  simp only[cf80L2,cf80E2,go_sem,seval]
  rw[hI];rfl
 ·rintro d l r env hp hes ⟨rfl,hI⟩
  rw[vL]at hI
  have hsb:(d++l::r).length<=big:=by rw[<-hes];exact hb
  have hget:ls[d.length]?=some l:=by rw[hes];simp
  have e1:decide ((d.length:Int)<(ls.length:Int))=true:=by rw[hes];simp;omega
  have e2:((d.length:Int)<(ls.length:Int))=True:=eq_true (by rw[hes];simp;omega)
  rw[hI]
  clear hI
  simp only[cf80L2,cf80E2,hget,e1,e2,go_sem,seval]
  refine aB (h54 l) (by simp only[go_sem,seval]) rfl ?_
  simp only[go_sem,seval]
  cases hl:d9 l
  case false=>
   simp only[go_sem,seval]
  simp only[go_sem,seval]
  have hlb:=l.ts.ok
  refine aG l.ts.es (fun d2 r2 env hp=>env=cf80E1 (.sl nl (ls.map Lin.av) cl) (.sl nl' (vars.map Str.av) cl') (.int .i64 d.length) (.int .i64 d2.length)/\l.ts.es.all (fun x=>jR vars x.v.bs)=r2.all (fun x=>jR vars x.v.bs)) ?_ ?_ ?_
  ·exact⟨rfl,rfl⟩
  ·rintro env hp ⟨rfl,hI⟩
   have f1:decide ((l.ts.es.length:Int)<(l.ts.es.length:Int))=false:=by simp
   simp only[cf80L1,cf80E1,hget,e2,f1,aM hsb,go_sem,seval]
   refine⟨rfl,?_⟩
   rw[hI];simp
  ·rintro d2 x r2 env hp he2 ⟨rfl,hI⟩
   have hsb2:(d2++x::r2).length<=big:=by rw[<-he2];exact hlb
   have hget2:l.ts.es[d2.length]?=some x:=by rw[he2];simp
   have g1:decide ((d2.length:Int)<(l.ts.es.length:Int))=true:=by rw[he2];simp;omega
   have g2:((d2.length:Int)<(l.ts.es.length:Int))=True:=eq_true (by rw[he2];simp;omega)
   rw[hI]
   clear hI
   simp only[cf80L1,cf80E1,hget,e2,g1,go_sem,seval]
   refine aG vars (fun d3 r3 env hp=>env=cf80E0 (.sl nl (ls.map Lin.av) cl) (.sl nl' (vars.map Str.av) cl') (.int .i64 d.length) (.int .i64 d2.length) (.bool (d3.any fun s=>decide (x.v.bs=s.bs))) (.int .i64 d3.length)) ?_ ?_ ?_
   ·rfl
   ·rintro env hp rfl
    simp only[cf80L0,cf80E0,go_sem,seval]
    have hh:(vars.any fun s=>decide (x.v.bs=s.bs))=jR vars x.v.bs:=rfl
    rw[hh]
    cases hv:jR vars x.v.bs
    case false=>
     simp only[go_sem,seval]
    case true=>
     simp only[aM hsb2,go_sem,seval]
     rfl
   ·rintro d3 y r3 env hp he3 rfl
    have hsb3:(d3++y::r3).length<=big:=by rw[<-he3];exact hb'
    have hget3:vars[d3.length]?=some y:=by rw[he3];simp
    have k1:decide ((d3.length:Int)<(vars.length:Int))=true:=by rw[he3];simp;omega
    have k2:((d3.length:Int)<(vars.length:Int))=True:=eq_true (by rw[he3];simp;omega)
    have hany:((d3++[y]).any fun s=>decide (x.v.bs=s.bs))=((d3.any fun s=>decide (x.v.bs=s.bs))||decide (x.v.bs=y.bs)):=by simp
    rw[hany]
    cases hA:(d3.any fun s=>decide (x.v.bs=s.bs))
    case true=>
     simp only[cf80L0,cf80E0,k1,k2,hget3,aM hsb3,go_sem,seval]
     exact⟨by kernel_rfl,rfl⟩
    case false=>
     have hsym:decide (y.bs=x.v.bs)=decide (x.v.bs=y.bs):=by rw[decide_eq_decide];exact eq_comm
     simp only[cf80L0,cf80E0,k1,k2,hget3,hget,hget2,e2,g2,hsym,aM hsb3,go_sem,seval]
     exact⟨by kernel_rfl,rfl⟩
theorem c160(hf:pg.fs 160=some cf160)(s:List UInt8)(hb:s.length<=big):Ret pg 160 [.str s] (.bool (fD s)):=by
 refine Ret.ofX hf ?_
 unfold cf160
 cases b0:decide ((s.length:Int)=0)
 case true=>
  have:s=[]:=List.eq_nil_of_length_eq_zero (by have:=of_decide_eq_true b0;omega)
  have e1:decide (1<((0:Nat):Int))=false:=by decide
  simp only[go_sem,seval]
  refine aG ([]:List UInt8) (fun e r env hp=>env=cf160E0 (.str s) (.int .i64 1)) ?_ ?_ ?_
  ·rfl
  ·rintro env hp rfl
   subst this
   simp only[cf160L0,cf160E0,go_sem,seval]
   rfl
  ·rintro e x r env hp he _
   simp at he
 case false=>
 obtain⟨c,t,hs⟩:∃c t,s=c::t:=by
  cases s with
  |nil=>simp at b0
  |cons c t=>exact⟨c,t,rfl⟩
 have hg0:s[0]?=some c:=by rw[hs];rfl
 have hlt:s.length=t.length+1:=by rw[hs];rfl
 have hev:fD s=(decide (s.length<=30)&&(decide (65<=c.toNat)&&decide (c.toNat<=90))&&t.all aV):=by rw[hs];rfl
 simp only[go_sem,seval]
 refine aG t (fun e r env hp=>env=cf160E0 (.str s) (.int .i64 ((e.length+1:Nat):Int))/\t.all aV=r.all aV) ?_ ?_ ?_
 ·exact⟨rfl,rfl⟩
 ·rintro env hp ⟨rfl,hI⟩
  have hI':t.all aV=true:=by rw[hI];rfl
  rw[hev,hI',Bool.and_true]
  have hex:decide (((t.length+1:Nat):Int)<(s.length:Int))=false:=by simp;omega
  have f1:decide (1<=(s.length:Int))=true:=by simp;omega
  cases b1:decide ((s.length:Int)<=30)
  case false=>
   have:¬s.length<=30:=by have:=of_decide_eq_false b1;omega
   simp only[cf160L0,cf160E0,hex,f1,b1,go_sem,seval]
   simp[this]
  case true=>
  have h30:s.length<=30:=by have:=of_decide_eq_true b1;omega
  cases b2:decide (65<=(c.toNat:Int))
  case false=>
   have:¬ 65<=c.toNat:=by have:=of_decide_eq_false b2;omega
   simp only[cf160L0,cf160E0,hex,f1,b1,hg0,b2,go_sem,seval]
   simp[this]
  case true=>
  have h65:65<=c.toNat:=by have:=of_decide_eq_true b2;omega
  have hc:decide ((c.toNat:Int)<=90)=decide (c.toNat<=90):=by rw[decide_eq_decide];omega
  simp only[cf160L0,cf160E0,hex,f1,b1,hg0,b2,hc,go_sem,seval]
  simp[h30,h65]
 ·rintro e x r env hp he ⟨rfl,hI⟩
  have hse:s=(c::e)++x::r:=by rw[hs,he];rfl
  have k1:s[e.length+1]?=some x:=by rw[hse];simp
  have k2:decide (((e.length+1:Nat):Int)<(s.length:Int))=true:=by rw[hse];simp;omega
  have k3:wr .i64 (((e.length+1:Nat):Int)+1)=(((e++[x]).length+1:Nat):Int):=by
   simp only[big]at hb
   rw[aR (by omega) (by rw[hse]at hb;simp at hb;omega)];simp
  cases b1:decide ((x.toNat:Int)<48)
  case true=>
   have hx:aV x=false:=by
    have:¬ 48<=x.toNat:=by have:=of_decide_eq_true b1;omega
    simp[aV,this]
   simp only[cf160L0,cf160E0,k1,k2,b1,go_sem,seval]
   rw[hev,hI];simp[hx]
  case false=>
  cases b2:decide (57<(x.toNat:Int))
  case true=>
   have hx:aV x=false:=by
    have:¬x.toNat<=57:=by have:=of_decide_eq_true b2;omega
    simp[aV,this]
   simp only[cf160L0,cf160E0,k1,k2,b1,b2,go_sem,seval]
   rw[hev,hI];simp[hx]
  case false=>
  have hx:aV x=true:=by
   have h1:=of_decide_eq_false b1
   have h2:=of_decide_eq_false b2
   simp only[aV,Bool.and_eq_true,decide_eq_true_eq]
   omega
  simp only[cf160L0,cf160E0,k1,k2,b1,b2,k3,go_sem,seval]
  refine⟨rfl,?_⟩
  rw[hI];simp[hx]
theorem c116(hf:pg.fs 116=some cf116)(h160:pg.fs 160=some cf160)(s:Str):Ret pg 116 [.str s.bs] (.bool (decide (s.bs=[105,110,116])||decide (s.bs=[98,111,111,108])||fD s.bs)):=by
 refine Ret.ofX hf ?_
 unfold cf116
 cases b1:decide (s.bs=[105,110,116])
 case true=>
  simp only[b1,go_sem,seval]
 case false=>
 cases b2:decide (s.bs=[98,111,111,108])
 case true=>
  simp only[b1,b2,go_sem,seval]
 case false=>
 simp only[b1,b2,go_sem,seval]
 refine aB (c160 h160 s.bs s.ok) (by simp only[go_sem,seval]) rfl ?_
 simp only[go_sem,seval]
theorem c117(hf:pg.fs 117=some cf117)(h54:∀l:Lin,Ret pg 54 [l.av] (.bool (d9 l)))(h77:∀s:Str,Ret pg 77 [.str s.bs] (.bool (fJ s.bs)))(sh:bF):Ret pg 117 [sh.av] (.bool (lC sh)):=by
 refine Ret.ofX hf ?_
 unfold cf117
 have hdb:=sh.dims.ok
 simp only[go_sem,seval]
 refine aG sh.dims.es (fun d r env hp=>hp.get 1=some (0,.blk [.str sh.row.bs,.sl sh.dims.nl (sh.dims.es.map Lin.av) sh.dims.cl] 2 true true false) /\
  env=cf117E0 (.pt 1 0 0) (.int .i64 d.length)/\sh.dims.es.all d9=r.all d9) ?_ ?_ ?_
 ·exact⟨rfl,rfl,rfl⟩
 ·rintro env hp ⟨h1,rfl,hq⟩
  have hq':sh.dims.es.all d9=true:=by rw[hq];rfl
  have f1:decide ((sh.dims.es.length:Int)<(sh.dims.es.length:Int))=false:=by simp
  have hso:lC sh=((decide (sh.row.bs=[])||fJ sh.row.bs)&&decide ((sh.dims.es.length:Int)<=6)):=by simp[lC,hq']
  rw[hso]
  cases b1:decide ((sh.dims.es.length:Int)<=6)
  case false=>
   simp only[cf117L0,cf117E0,h1,f1,b1,go_sem,seval]
  case true=>
  cases b2:decide (sh.row.bs=[])
  case true=>
   simp only[cf117L0,cf117E0,h1,f1,b1,b2,go_sem,seval]
  case false=>
  simp only[cf117L0,cf117E0,h1,f1,b1,b2,go_sem,seval]
  refine aB (h77 sh.row) (by simp only[go_sem,seval]) rfl ?_
  simp only[go_sem,seval]
 ·rintro d x r env hp hes ⟨h1,rfl,hq⟩
  have hsb:(d++x::r).length<=big:=by rw[<-hes];exact hdb
  have hget:sh.dims.es[d.length]?=some x:=by rw[hes];simp
  have e1:decide ((d.length:Int)<(sh.dims.es.length:Int))=true:=by rw[hes];simp;omega
  have e2:((d.length:Int)<(sh.dims.es.length:Int))=True:=eq_true (by rw[hes];simp;omega)
  simp only[cf117L0,cf117E0,h1,e1,e2,hget,go_sem,seval]
  refine aB (h54 x) (by simp only[go_sem,seval]) rfl ?_
  simp only[go_sem,seval]
  cases hx:d9 x
  case false=>
   simp only[go_sem,seval]
   simp[lC,hq,hx]
  case true=>
   simp only[aM hsb,go_sem,seval]
   refine⟨h1,rfl,?_⟩
   rw[hq];simp[hx]
theorem c79(hf:pg.fs 79=some cf79)(h116:∀s:Str,Ret pg 116 [.str s.bs] (.bool (decide (s.bs=[105,110,116])||decide (s.bs=[98,111,111,108])||fD s.bs)))(h117:∀sh:bF,Ret pg 117 [sh.av] (.bool (lC sh)))(t:Typ):Ret pg 79 [t.av] (.bool (pB t)):=by
 refine Ret.ofX hf ?_
 unfold cf79
 simp only[go_sem,seval]
 refine aB (h116 t.elem) (by simp only[go_sem,seval]) rfl ?_
 cases b1:(decide (t.elem.bs=[105,110,116])||decide (t.elem.bs=[98,111,111,108])||fD t.elem.bs)
 case false=>
  simp only[b1,go_sem,seval]
  simp[pB,b1]
 case true=>
  simp only[b1,go_sem,seval]
  have a:=h117 t.shape
  rw[bF.avc]at a
  refine aB (a) (by simp only[go_sem,seval]) rfl ?_
  simp only[go_sem,seval]
  simp[pB,b1]
theorem c78(hf:pg.fs 78=some cf78)(s:List UInt8)(hb:s.length<=big):Ret pg 78 [.str s] (.bool (wB s)):=by
 refine Ret.ofX hf ?_
 unfold cf78
 cases b0:decide ((s.length:Int)=0)
 case true=>
  have:s=[]:=List.eq_nil_of_length_eq_zero (by have:=of_decide_eq_true b0;omega)
  simp only[go_sem,seval]
  refine aG ([]:List UInt8) (fun e r env hp=>env=cf78E0 (.str s) (.int .i64 1)) ?_ ?_ ?_
  ·rfl
  ·rintro env hp rfl
   subst this
   simp only[cf78L0,cf78E0,go_sem,seval]
   rfl
  ·rintro e x r env hp he _
   simp at he
 case false=>
 obtain⟨c,t,hs⟩:∃c t,s=c::t:=by
  cases s with
  |nil=>simp at b0
  |cons c t=>exact⟨c,t,rfl⟩
 have hg0:s[0]?=some c:=by rw[hs];rfl
 have hlt:s.length=t.length+1:=by rw[hs];rfl
 have hev:wB s=(decide (0<t.length)&&((decide ((c.toNat:Int)=105)||decide ((c.toNat:Int)=106))&&t.all aV)):=by
  rw[hs]
  cases t with
  |nil=>rfl
  |cons d u=>simp[wB]
 simp only[go_sem,seval]
 refine aG t (fun e r env hp=>env=cf78E0 (.str s) (.int .i64 ((e.length+1:Nat):Int))/\t.all aV=r.all aV) ?_ ?_ ?_
 ·exact⟨rfl,rfl⟩
 ·rintro env hp ⟨rfl,hI⟩
  have hI':t.all aV=true:=by rw[hI];rfl
  rw[hev,hI',Bool.and_true]
  have hex:decide (((t.length+1:Nat):Int)<(s.length:Int))=false:=by simp;omega
  cases b1:decide (1<(s.length:Int))
  case false=>
   have:¬ 0<t.length:=by have:=of_decide_eq_false b1;omega
   have h0:decide (0<t.length)=false:=decide_eq_false this
   rw[h0]
   simp only[cf78L0,cf78E0,hex,b1,go_sem,seval]
  case true=>
  have:0<t.length:=by have:=of_decide_eq_true b1;omega
  have h0:decide (0<t.length)=true:=decide_eq_true this
  rw[h0]
  cases b2:decide ((c.toNat:Int)=105)
  ·simp only[cf78L0,cf78E0,hex,b1,hg0,b2,go_sem,seval]
  ·simp only[cf78L0,cf78E0,hex,b1,hg0,b2,go_sem,seval]
 ·rintro e x r env hp he ⟨rfl,hI⟩
  have hse:s=(c::e)++x::r:=by rw[hs,he];rfl
  have k1:s[e.length+1]?=some x:=by rw[hse];simp
  have k2:decide (((e.length+1:Nat):Int)<(s.length:Int))=true:=by rw[hse];simp;omega
  have k3:wr .i64 (((e.length+1:Nat):Int)+1)=(((e++[x]).length+1:Nat):Int):=by
   simp only[big]at hb
   rw[aR (by omega) (by rw[hse]at hb;simp at hb;omega)];simp
  cases b1:decide ((x.toNat:Int)<48)
  case true=>
   have hx:aV x=false:=by
    have:¬ 48<=x.toNat:=by have:=of_decide_eq_true b1;omega
    simp[aV,this]
   simp only[cf78L0,cf78E0,k1,k2,b1,go_sem,seval]
   rw[hev,hI];simp[hx]
  case false=>
  cases b2:decide (57<(x.toNat:Int))
  case true=>
   have hx:aV x=false:=by
    have:¬x.toNat<=57:=by have:=of_decide_eq_true b2;omega
    simp[aV,this]
   simp only[cf78L0,cf78E0,k1,k2,b1,b2,go_sem,seval]
   rw[hev,hI];simp[hx]
  case false=>
  have hx:aV x=true:=by
   have h1:=of_decide_eq_false b1
   have h2:=of_decide_eq_false b2
   simp only[aV,Bool.and_eq_true,decide_eq_true_eq]
   omega
  simp only[cf78L0,cf78E0,k1,k2,b1,b2,k3,go_sem,seval]
  refine⟨rfl,?_⟩
  rw[hI];simp[hx]
end
end Go.Tev
end
section
namespace Go.Tev
section
variable{pg:Pg}
end
end Go.Tev
end
section
namespace Go.Tev
theorem fQ{α : Type}{q : α -> α -> Bool}(h:∀x,q x x=true):∀l:List α,eqL q l l=true
 |[]=>by simp[eqL]
 |x::r=>by simp[eqL,h x,fQ h r]
theorem AR{α : Type}{q : α -> α -> Bool}:∀l:List α,(∀x∈l,q x x=true)->eqL q l l=true
 |[],_=>by simp[eqL]
 |x::r,h=>by simp[eqL,h x (by simp),AR r (fun y hy=>h y (by simp[hy]))]
theorem D2(x:bR):gP x x=true:=by simp[gP]
theorem lA(x:Lin):bJ x x=true:=by simp[bJ,fQ D2]
theorem mY(x:aI):eY x x=true:=by simp[eY,fQ]
theorem pU:∀p:aC,cY p p=true:=
 aC.ind' fun p ih=>by
  rw[nW,kV,AR p.kids ih,fQ lA,fQ mY]
  simp
theorem nG{α β : Type}{q : α -> β -> Bool}(l:List α):eqL q l []=decide ((l.length:Int)=0):=by
 cases l with
 |nil=>simp[eqL]
 |cons x r=>simp[eqL];omega
def fV(α : Type):Sl α:=⟨true,[],true,by simp[big]⟩
def sT(x:aE):aE:=
 ⟨x.kind,x.value,x.space,x.body,if x.kind=2 then x.fn else fV aI,if x.kind=3 then x.source else 0,if x.kind=3 then x.index else wM,if x.kind=3 then x.check else 0⟩
def jQ(a b:aE):Bool:=
 decide (a.kind=b.kind)&&decide (a.value=b.value)&&decide (a.source=b.source)&&decide (a.check=b.check)&&eqL bJ a.space.es b.space.es&&cY a.body b.body&&cY a.index b.index&&eqL eY a.fn.es b.fn.es
theorem DG(x:aE):jQ x (sT x)=((if decide (x.kind=3) then true else !mL x)&&(decide (x.kind=2)||decide ((x.fn.es.length:Int)=0))):=by
 simp only[jQ,sT,fQ lA,pU,mL]
 by_cases h3:x.kind=3
 ·have h2:¬x.kind=2:=by omega
  simp[h3,pU,fV,nG]
 ·by_cases h2:x.kind=2
  ·simp[h2,fQ mY]
  ·simp[h3,h2,fV,nG,Bool.and_assoc]
def bO(k:aA)(p:aC)(n:Nat)(th:List Bool):Bool:=
 gB p (eB k.vars.es n) k.values.es.length&&(aW p).all (fun v=>aU th v)
def j4(k:aA)(q:aE)(i:Nat):Bool:=
 !decide ((i:Int)=0)&&(match k.list.es[((i:Int)-1).toNat]? with|none=>false|some r=>decide (r.kind=1)&&decide (r.value=q.value))
def j6(k:aA)(q:aE)(th:List Bool)(second:Bool):Bool:=
 !(decide (q.value<k.inputs)||decide ((k.values.es.length:Int)<=q.value))&&(jQ q (sT q) &&
 (match k.values.es[q.value.toNat]? with
 |none=>false
 |some t=>
  !kN k.values.es q t &&
  (if decide (q.kind=1) then !aU th q.value&&(eqL bJ q.space.es t.shape.dims.es&&bO k q.body t.shape.dims.es.length th)
  else if decide (q.kind=2) then !aU th q.value&&(decide (0<(t.shape.dims.es.length:Int))&&(eqL bJ q.space.es t.shape.dims.es&&(bO k q.body t.shape.dims.es.length th&&cM q.fn.es 2)))
  else if decide (q.kind=3) then
   !decide ((t.shape.dims.es.length:Int)=0)&&(eqL bJ q.space.es t.shape.dims.es.dropLast&&(!decide (q.check<0)&&(!decide (q.source<0)&&(!decide ((k.values.es.length:Int)<=q.source)&&(aU th q.source &&
   ((aU th q.value==decide (q.source=q.value))&&(!(aU th q.value && !second)&&((match k.values.es[q.source.toNat]? with|none=>false|some u=>gG u t) &&
   (bO k q.body (t.shape.dims.es.length-1) (th.set q.value.toNat false)&&bO k q.index (t.shape.dims.es.length-1) (th.set q.value.toNat false))))))))))
  else false)))
theorem ES{th:List Bool}{v a:Int}(hv:0<=v)(ha:0<=a):aU (th.set v.toNat false) a=(aU th a && !decide (a=v)):=by
 simp only[aU,List.getElem?_set]
 by_cases h:a=v
 ·subst h
  by_cases h2:a.toNat<th.length
  ·simp[h2]
  ·simp[h2]
 ·have h1:¬v.toNat=a.toNat:=by omega
  simp[h1,h]
theorem M1{l m:List Int}{p q:Int->Bool}(hm:∀a,a∈l↔a∈m)(h:∀a∈l,p a = !q a):l.all p = !m.any q:=by
 rw[Bool.eq_iff_iff]
 simp only[List.all_eq_true,Bool.not_eq_true',List.any_eq_false]
 constructor
 ·intro g a ha hq
  have:=g a ((hm a).2 ha)
  rw[h a ((hm a).2 ha),hq]at this
  cases this
 ·intro g a ha
  rw[h a ha]
  have:=g a ((hm a).1 ha)
  simpa using this
theorem vH(k:aA)(p:aC)(n:Nat)(th th':List Bool)(nt:Int)(h:∀a,0<=a->aU th' a=(aU th a && !decide (a=nt))):bO k p n th'=d8 k th p n nt:=by
 simp only[bO,d8]
 cases hp:gB p (eB k.vars.es n) k.values.es.length
 ·rfl
 ·simp only[Bool.true_and]
  simp only[gB,Bool.and_eq_true]at hp
  refine M1 (fun a=>?_) (fun a ha=>?_)
  ·rw[iD,bK,kZ,l8]
  ·rw[iD]at ha
   obtain⟨h4,h5⟩:=mU _ p _ hp.2 a ha
   rw[h a h4]
   cases aU th a<;>simp
theorem DH(k:aA)(q:aE)(i:Nat):BR k q i=(!decide (q.kind=3) || !decide (q.source=q.value) || !j4 k q i):=by
 simp only[BR,j4]
 cases h1:decide ((i:Int)=0)
 ·simp only[Bool.or_false,Bool.not_false,Bool.true_and]
  cases h2:k.list.es[((i:Int)-1).toNat]? with
  |none=>simp
  |some r=>dsimp only;cases decide (r.kind=1)<;>cases decide (r.value=q.value)<;>simp
 ·simp
theorem C1(k:aA)(q:aE)(th:List Bool)(i:Nat)(hin:0<=k.inputs):j6 k q th (j4 k q i)=bI k th q i:=by
 simp only[j6,bI,DG,DH,r7]
 cases o1:decide (q.value<k.inputs)
 case true=>simp
 cases o2:decide ((k.values.es.length:Int)<=q.value)
 case true=>simp
 have hv:0<=q.value:=by simp at o1;omega
 cases ht:k.values.es[q.value.toNat]? with
 |none=>simp
 |some t=>
 simp only[Bool.or_false,Bool.not_false,Bool.true_and,Bool.false_or]
 cases hb:kN k.values.es q t
 case true=>simp
 simp only[Bool.not_false,Bool.true_and]
 have key:∀p n,aU th q.value=false->bO k p n th=d8 k th p n (-1):=by
  intro p n _
  refine vH k p n th th (-1) (fun a ha=>?_)
  have:¬a = -1:=by omega
  simp[this]
 have key3:∀p n,bO k p n (th.set q.value.toNat false)=d8 k th p n (if aU th q.value then q.value else -1):=by
  intro p n
  refine vH k p n th _ _ (fun a ha=>?_)
  rw[ES hv ha]
  cases hto:aU th q.value
  ·by_cases hav:a=q.value
   ·subst hav
    simp[hto]
   ·have:¬a = -1:=by omega
    simp[hav,this]
  ·simp
 by_cases h3:q.kind=3
 ·have h1:¬q.kind=1:=by omega
  have h2:¬q.kind=2:=by omega
  simp only[h1,h2,h3,decide_true,decide_false,if_true,if_false,Bool.true_and,Bool.false_or,Bool.not_true,pD,rD,s7,key3,Bool.false_eq_true]
  simp only[show ∀n:Nat,((n:Int)=0)=(n=0) from fun n=>by simp]
  have hfn:decide (0<(q.fn.es.length:Int)) = !decide (q.fn.es.length=0):=by
   by_cases h:q.fn.es.length=0<;>simp[h];omega
  rw[hfn,List.length_dropLast]
  cases decide (q.fn.es.length=0)
  ·simp
  simp only[Bool.true_and,Bool.not_true,Bool.or_false]
  cases decide (t.shape.dims.es.length=0)
  case true=>simp
  cases hc:decide (q.check<0)
  case true=>simp
  cases s1:decide (q.source<0)
  case true=>simp
  cases s2:decide ((k.values.es.length:Int)<=q.source)
  case true=>simp
  cases s3:aU th q.source
  case false=>simp
  simp only[Bool.not_false,Bool.true_and,Bool.or_false,Bool.not_true,Bool.false_or]
  cases hsv:decide (q.source=q.value)
  ·cases hto:aU th q.value
   ·simp only[beq_self_eq_true,Bool.true_and,Bool.false_and,Bool.not_false,Bool.false_eq_true,if_false]
    cases k.values.es[q.source.toNat]? with
    |none=>simp
    |some u=>dsimp only;cases gG u t<;>simp
   ·simp
  ·have hsv':q.source=q.value:=by simpa using hsv
   rw[hsv']at s3 ⊢
   simp only[s3,beq_self_eq_true,Bool.true_and,Bool.not_true,Bool.false_or,if_true,ht]
   cases j4 k q i<;>cases gG t t<;>simp
 ·simp only[h3,decide_false,if_false,Bool.false_eq_true,Bool.not_false,Bool.true_or,Bool.and_true,pD,rD]
  cases hpl:mL q
  case true=>simp
  have hck:decide (q.check<0)=false:=by
   simp only[mL,Bool.or_eq_false_iff,Bool.not_eq_false',decide_eq_true_eq]at hpl
   simp[hpl.1.2]
  simp only[hck,Bool.not_false,Bool.true_and]
  by_cases h1:q.kind=1
  ·have h2:¬q.kind=2:=by omega
   simp only[h1,h2,decide_true,decide_false,if_true,Bool.false_or]
   cases hto:aU th q.value
   ·rw[key _ _ hto]
    simp only[Bool.false_eq_true,if_false]
    cases decide ((q.fn.es.length:Int)=0)<;>simp
   ·simp
  ·by_cases h2:q.kind=2
   ·simp only[h1,h2,decide_true,decide_false,if_true,if_false,Bool.true_or,Bool.false_eq_true,Bool.true_and]
    cases hto:aU th q.value
    ·rw[key _ _ hto]
     simp only[Bool.false_eq_true,if_false]
     cases decide (0<(t.shape.dims.es.length:Int))<;>cases eqL bJ q.space.es t.shape.dims.es<;>cases cM q.fn.es 2<;>simp
    ·simp
   ·simp[h1,h2]
end Go.Tev
end
section
namespace Go.Tev
theorem cJ{α : Type}{es d r:List α}{x : α}(hes:es=d++x::r)(hb:es.length<=big) :
  es[d.length]?=some x/\decide ((d.length:Int)<(es.length:Int))=true/\((d.length:Int)<(es.length:Int))=True/\wr .i64 ((d.length:Int)+1)=((d++[x]).length:Int):=by
 have h:d.length<es.length:=by rw[hes];simp
 refine⟨by rw[hes];simp,by simp;omega,eq_true (by omega),aM (r:=r) (by rw[<-hes];exact hb)⟩
theorem aX(n:Nat):decide ((n:Int)<(n:Int))=false:=by simp
theorem z7{α β : Type}{q : α -> β -> Bool}{es d r:List α}{x : α}{es':List β}(hes:es=d++x::r)(hl:es.length=es'.length) :
  ∃y,es'[d.length]?=some y/\decide ((d.length:Int)<(es'.length:Int))=true/\((d.length:Int)<(es'.length:Int))=True/\eqL q (x::r) (es'.drop d.length)=(q x y&&eqL q r (es'.drop (d++[x]).length)):=by
 have h:d.length<es'.length:=by rw[<-hl,hes];simp
 refine⟨es'[d.length],List.getElem?_eq_getElem h,by simp;omega,eq_true (by omega),?_⟩
 rw[List.drop_eq_getElem_cons h,eqL]
 simp
theorem l9{α β : Type}{q : α -> β -> Bool}{es:List α}{es':List β}(hl:es.length=es'.length):eqL q [] (es'.drop es.length)=true:=by
 rw[hl,List.drop_length];simp[eqL]
theorem uN{α β : Type}{q : α -> β -> Bool}{a:List α}{b:List β}(h:decide ((a.length:Int)=(b.length:Int))=false):eqL q a b=false:=by
 cases he:eqL q a b
 ·rfl
 ·have:=wL he
  simp[this]at h
theorem oI:∀s:List UInt8,Op.bytesLess s s=false
 |[]=>rfl
 |c::r=>by
  simp only[Op.bytesLess,oI r,Bool.and_false,Bool.or_false,decide_eq_false_iff_not]
  exact UInt8.lt_irrefl c
section
variable{pg:Pg}
theorem c194(hf:pg.fs 194=some cf194)(nl cl:Bool)(vars:List Str)(hb:vars.length<=big)(s:List UInt8):Ret pg 194 [.sl nl (vars.map Str.av) cl,.str s] (.bool (jR vars s)):=by
 refine Ret.ofX hf ?_
 unfold cf194
 simp only[go_sem,seval]
 refine aG vars (fun d r env hp=>env=cf194E0 (.sl nl (vars.map Str.av) cl) (.str s) (.int .i64 d.length)/\jR vars s=jR r s) ?_ ?_ ?_
 ·exact⟨rfl,rfl⟩
 ·rintro env hp ⟨rfl,hI⟩
  simp only[cf194L0,cf194E0,aX,go_sem,seval]
  rw[hI];rfl
 ·rintro d x r env hp hes ⟨rfl,hI⟩
  obtain⟨hget,e1,e2,ew⟩:=cJ hes hb
  have hsym:decide (x.bs=s)=decide (s=x.bs):=by rw[decide_eq_decide];exact eq_comm
  cases hx:decide (s=x.bs)
  ·simp only[cf194L0,cf194E0,e1,e2,hget,hsym,hx,ew,go_sem,seval]
   refine⟨rfl,?_⟩
   rw[hI];simp[jR,hx]
  ·simp only[cf194L0,cf194E0,e1,e2,hget,hsym,hx,go_sem,seval]
   rw[hI];simp[jR,hx]
theorem c193(hf:pg.fs 193=some cf193)(h54:∀l:Lin,Ret pg 54 [l.av] (.bool (d9 l)))(h194:pg.fs 194=some cf194)(nl cl:Bool)(ls:List Lin)(hb:ls.length<=big)(nl' cl':Bool)(vars:List Str)(hb':vars.length<=big) :
  Ret pg 193 [.sl nl (ls.map Lin.av) cl,.sl nl' (vars.map Str.av) cl'] (.bool (bZ ls vars)):=by
 refine Ret.ofX hf ?_
 unfold cf193
 simp only[go_sem,seval]
 refine aG ls (fun d r env hp=>env=cf193E1 (.sl nl (ls.map Lin.av) cl) (.sl nl' (vars.map Str.av) cl') (.int .i64 d.length)/\bZ ls vars=bZ r vars) ?_ ?_ ?_
 ·exact⟨rfl,rfl⟩
 ·rintro env hp ⟨rfl,hI⟩
  simp only[cf193L1,cf193E1,aX,go_sem,seval]
  rw[hI];rfl
 ·rintro d l r env hp hes ⟨rfl,hI⟩
  rw[vL]at hI
  obtain⟨hget,e1,e2,ew⟩:=cJ hes hb
  rw[hI]
  clear hI
  simp only[cf193L1,cf193E1,hget,e1,e2,go_sem,seval]
  refine aB (h54 l) (by simp only[go_sem,seval]) rfl ?_
  simp only[go_sem,seval]
  cases hl:d9 l
  case false=>
   simp only[go_sem,seval]
  simp only[go_sem,seval]
  have hlb:=l.ts.ok
  refine aG l.ts.es (fun d2 r2 env hp=>env=cf193E0 (.sl nl (ls.map Lin.av) cl) (.sl nl' (vars.map Str.av) cl') (.int .i64 d.length) (.int .i64 d2.length)/\l.ts.es.all (fun x=>jR vars x.v.bs)=r2.all (fun x=>jR vars x.v.bs)) ?_ ?_ ?_
  ·exact⟨rfl,rfl⟩
  ·rintro env hp ⟨rfl,hI⟩
   simp only[cf193L0,cf193E0,hget,e2,aX,ew,go_sem,seval]
   refine⟨rfl,?_⟩
   rw[hI];simp
  ·rintro d2 x r2 env hp he2 ⟨rfl,hI⟩
   obtain⟨hget2,g1,g2,gw⟩:=cJ he2 hlb
   rw[hI]
   clear hI
   simp only[cf193L0,cf193E0,hget,e2,g1,g2,hget2,go_sem,seval]
   refine aB (c194 h194 nl' cl' vars hb' x.v.bs) (by simp only[go_sem,seval]) rfl ?_
   simp only[go_sem,seval]
   cases hv:jR vars x.v.bs
   ·simp only[hv,go_sem,seval]
   ·simp only[hv,gw,go_sem,seval]
    rfl
theorem PP(hf:pg.fs 124=some cf124)(n:Int):Ret pg 124 [.str [105,110,116],.int .i64 n] (.bool (lE n)):=by
 refine Ret.ofX hf ?_
 unfold cf124
 repeat' (first|simp only[*,go_sem,seval]|refine aK (fun _=>?_) (fun _=>?_)|refine aL (fun _=>?_) (fun _=>?_)|refine And.intro (by kernel_rfl) ?_)
 all_goals (simp_all [lE])
 all_goals omega
theorem VP(hf:pg.fs 124=some cf124)(n:Int):Ret pg 124 [.str [98,111,111,108],.int .i64 n] (.bool (o7 n)):=by
 refine Ret.ofX hf ?_
 unfold cf124
 repeat' (first|simp only[*,go_sem,seval]|refine aK (fun _=>?_) (fun _=>?_)|refine aL (fun _=>?_) (fun _=>?_)|refine And.intro (by kernel_rfl) ?_)
 all_goals (simp_all [o7])
def VI(a b:Lin)(r:AV):Prop:=∃c:Int,r = .int .i64 c/\decide (c=0)=bJ a b
theorem lZ{a b:Lin}(c:Int)(h:decide (c=0)=bJ a b):VI a b (.int .i64 c):=⟨c,rfl,h⟩
theorem GR{α β : Type}{a:List α}{b:List β}{d r:List (α×β)}{p : α×β}(h:a.zip b=d++p::r) :
  a[d.length]?=some p.1/\b[d.length]?=some p.2/\d.length<a.length/\d.length<b.length:=by
 have h1:(a.zip b)[d.length]?=some p:=by rw[h];simp
 rw[List.getElem?_zip_eq_some]at h1
 obtain⟨h2,h3⟩:=h1
 exact⟨h2,h3,(List.getElem?_eq_some_iff.1 h2).1,(List.getElem?_eq_some_iff.1 h3).1⟩
theorem c191(hf:pg.fs 191=some cf191)(a b:Lin):bL pg 191 [a.av,b.av] (VI a b):=by
 refine bL.ofX hf ?_
 unfold cf191
 simp only[go_sem,seval]
 have hab:=a.ts.ok
 have hbb:=b.ts.ok
 refine aG (a.ts.es.zip b.ts.es) (fun d r env hp=>hp.get 1=some (0,.blk [.int .i64 a.c,.sl a.ts.nl (a.ts.es.map bR.av) a.ts.cl] 2 true true false)/\hp.get 5=some (0,.blk [.int .i64 b.c,.sl b.ts.nl (b.ts.es.map bR.av) b.ts.cl] 2 true true false) /\
  env=cf191E0 (.pt 1 0 0) (.pt 5 0 0) (.int .i64 d.length)/\eqL gP a.ts.es b.ts.es=eqL gP (a.ts.es.drop d.length) (b.ts.es.drop d.length)) ?_ ?_ ?_
 ·exact⟨rfl,rfl,rfl,rfl⟩
 ·rintro env hp ⟨g1,g5,rfl,hI⟩
  rw[List.length_zip]at hI ⊢
  have hl:bJ a b=(decide (a.c=b.c)&&eqL gP (a.ts.es.drop (min a.ts.es.length b.ts.es.length)) (b.ts.es.drop (min a.ts.es.length b.ts.es.length))):=by rw[bJ,hI]
  clear hI
  generalize hm:min a.ts.es.length b.ts.es.length=m at hl ⊢
  rcases Nat.lt_trichotomy a.ts.es.length b.ts.es.length with h|h|h
  ·have hm':m=a.ts.es.length:=by omega
   subst hm'
   have f1:decide ((a.ts.es.length:Int)<(b.ts.es.length:Int))=true:=by simp;omega
   have hz:bJ a b=false:=by
    rw[hl,List.drop_length]
    have:(b.ts.es.drop a.ts.es.length)≠[]:=by simp[List.drop_eq_nil_iff];omega
    cases hd:b.ts.es.drop a.ts.es.length with
    |nil=>exact absurd hd this
    |cons y s=>simp[eqL]
   simp only[cf191L0,cf191E0,g1,g5,aX,f1,go_sem,seval]
   refine lZ _ ?_
   rw[hz];rfl
  ·have hm':m=a.ts.es.length:=by omega
   subst hm'
   have f0:decide ((b.ts.es.length:Int)<(a.ts.es.length:Int))=false:=by simp;omega
   have f1:decide ((a.ts.es.length:Int)<(b.ts.es.length:Int))=false:=by simp;omega
   have f2:decide ((a.ts.es.length:Int)=(b.ts.es.length:Int))=true:=by simp;omega
   have hz:bJ a b=decide (a.c=b.c):=by
    rw[hl,List.drop_length,h,List.drop_length]
    simp[eqL]
   cases c1:decide (a.c<b.c)
   case true=>
    simp only[cf191L0,cf191E0,g1,g5,aX,f0,f1,f2,c1,go_sem,seval]
    refine lZ _ ?_
    have:¬a.c=b.c:=by have:=of_decide_eq_true c1;omega
    rw[hz,decide_eq_false this];rfl
   case false=>
   cases c2:decide (b.c<a.c)
   case true=>
    simp only[cf191L0,cf191E0,g1,g5,aX,f0,f1,f2,c1,c2,go_sem,seval]
    refine lZ _ ?_
    have:¬a.c=b.c:=by have:=of_decide_eq_true c2;omega
    rw[hz,decide_eq_false this];rfl
   case false=>
    simp only[cf191L0,cf191E0,g1,g5,aX,f0,f1,f2,c1,c2,go_sem,seval]
    refine lZ _ ?_
    have:a.c=b.c:=by have:=of_decide_eq_false c2;have:=of_decide_eq_false c1;omega
    rw[hz,decide_eq_true this];rfl
  ·have hm':m=b.ts.es.length:=by omega
   subst hm'
   have f0:decide ((b.ts.es.length:Int)<(a.ts.es.length:Int))=true:=by simp;omega
   have f1:decide ((a.ts.es.length:Int)<(b.ts.es.length:Int))=false:=by simp;omega
   have f2:decide ((a.ts.es.length:Int)=(b.ts.es.length:Int))=false:=by simp;omega
   have hz:bJ a b=false:=by
    rw[hl,List.drop_length]
    have:(a.ts.es.drop b.ts.es.length)≠[]:=by simp[List.drop_eq_nil_iff];omega
    cases hd:a.ts.es.drop b.ts.es.length with
    |nil=>exact absurd hd this
    |cons y s=>simp[eqL]
   simp only[cf191L0,cf191E0,g1,g5,aX,f0,f1,f2,go_sem,seval]
   refine lZ _ ?_
   rw[hz];rfl
 ·rintro d ⟨x,y⟩ r env hp hes ⟨g1,g5,rfl,hI⟩
  obtain⟨ga,gb,la,lb⟩:=GR hes
  have e1:decide ((d.length:Int)<(a.ts.es.length:Int))=true:=by simp;omega
  have e2:((d.length:Int)<(a.ts.es.length:Int))=True:=eq_true (by omega)
  have e3:decide ((d.length:Int)<(b.ts.es.length:Int))=true:=by simp;omega
  have e4:((d.length:Int)<(b.ts.es.length:Int))=True:=eq_true (by omega)
  have ew:wr .i64 ((d.length:Int)+1)=((d++[(x,y)]).length:Int):=by
   simp only[big]at hab
   rw[aR (by omega) (by omega)];simp
  have hst:eqL gP a.ts.es b.ts.es=(gP x y&&eqL gP (a.ts.es.drop (d++[(x,y)]).length) (b.ts.es.drop (d++[(x,y)]).length)):=by
   rw[hI,List.drop_eq_getElem_cons la,List.drop_eq_getElem_cons lb,eqL]
   rw[List.getElem?_eq_getElem la]at ga
   rw[List.getElem?_eq_getElem lb]at gb
   cases ga;cases gb
   simp
  have hlin:gP x y=false->bJ a b=false:=by
   intro h
   rw[bJ,hst,h];simp
  clear hI
  cases c1:Op.bytesLess x.v.bs y.v.bs
  case true=>
   simp only[cf191L0,cf191E0,g1,g5,e1,e2,e3,e4,ga,gb,c1,go_sem,seval]
   refine And.intro (by kernel_rfl) ?_
   refine lZ _ ?_
   have:¬x.v.bs=y.v.bs:=by intro h;rw[h,oI]at c1;cases c1
   rw[hlin (by simp[gP,this])];rfl
  case false=>
  cases c2:decide (x.v.bs=y.v.bs)
  case false=>
   simp only[cf191L0,cf191E0,g1,g5,e1,e2,e3,e4,ga,gb,c1,c2,go_sem,seval]
   refine And.intro (by kernel_rfl) ?_
   refine lZ _ ?_
   rw[hlin (by simp[gP,c2])];rfl
  case true=>
  cases c3:decide (x.c<y.c)
  case true=>
   simp only[cf191L0,cf191E0,g1,g5,e1,e2,e3,e4,ga,gb,c1,c2,c3,go_sem,seval]
   refine And.intro (by kernel_rfl) ?_
   refine lZ _ ?_
   have:¬x.c=y.c:=by have:=of_decide_eq_true c3;omega
   rw[hlin (by simp[gP,this])];rfl
  case false=>
  cases c4:decide (x.c=y.c)
  case false=>
   simp only[cf191L0,cf191E0,g1,g5,e1,e2,e3,e4,ga,gb,c1,c2,c3,c4,go_sem,seval]
   refine And.intro (by kernel_rfl) ?_
   refine lZ _ ?_
   rw[hlin (by simp[gP,c4])];rfl
  case true=>
   simp only[cf191L0,cf191E0,g1,g5,e1,e2,e3,e4,ga,gb,c1,c2,c3,c4,go_sem,seval]
   rw[ew]
   refine⟨by kernel_rfl,rfl,?_⟩
   rw[hst];simp[gP,c2,c4]
theorem c162(hf:pg.fs 162=some cf162)(h191:pg.fs 191=some cf191)(a b:Lin):Ret pg 162 [a.av,b.av] (.bool (bJ a b)):=by
 obtain⟨r,hr,c,rfl,hc⟩:=c191 h191 a b
 rw[Lin.avc,Lin.avc]at hr
 refine Ret.ofX hf ?_
 unfold cf162
 simp only[go_sem,seval]
 refine aB (hr) (by simp only[go_sem,seval]) rfl ?_
 simp only[go_sem,seval]
 rw[<-hc]
theorem c121(hf:pg.fs 121=some cf121)(h162:pg.fs 162=some cf162)(h191:pg.fs 191=some cf191)(a b:bF):Ret pg 121 [a.av,b.av] (.bool (fF a b)):=by
 refine Ret.ofX hf ?_
 unfold cf121
 have hab:=a.dims.ok
 cases b1:decide (a.row.bs=b.row.bs)
 case false=>
  simp only[b1,go_sem,seval]
  simp[fF,b1]
 case true=>
 cases b2:decide ((a.dims.es.length:Int)=(b.dims.es.length:Int))
 case false=>
  simp only[b1,b2,go_sem,seval]
  simp[fF,b1,uN b2]
 case true=>
 have hl:a.dims.es.length=b.dims.es.length:=by have:=of_decide_eq_true b2;omega
 have hs:fF a b=eqL bJ a.dims.es b.dims.es:=by simp[fF,b1]
 rw[hs]
 simp only[b1,b2,go_sem,seval]
 refine aG a.dims.es (fun d r env hp=>hp.get 1=some (0,.blk [.str a.row.bs,.sl a.dims.nl (a.dims.es.map Lin.av) a.dims.cl] 2 true true false)/\hp.get 5=some (0,.blk [.str b.row.bs,.sl b.dims.nl (b.dims.es.map Lin.av) b.dims.cl] 2 true true false) /\
  env=cf121E0 (.pt 1 0 0) (.pt 5 0 0) (.int .i64 d.length)/\eqL bJ a.dims.es b.dims.es=eqL bJ r (b.dims.es.drop d.length)) ?_ ?_ ?_
 ·exact⟨rfl,rfl,rfl,rfl⟩
 ·rintro env hp ⟨g1,g5,rfl,hI⟩
  simp only[cf121L0,cf121E0,g1,aX,go_sem,seval]
  rw[hI,l9 hl]
 ·rintro d x r env hp hes ⟨g1,g5,rfl,hI⟩
  obtain⟨hget,e1,e2,ew⟩:=cJ hes hab
  obtain⟨y,gy,f1,f2,hq⟩:=z7 (q:=bJ) hes hl
  rw[hq]at hI
  rw[hI]
  clear hI
  have a1:=c162 h162 h191 x y
  rw[Lin.avc,Lin.avc]at a1
  cases hxy:bJ x y
  ·simp only[cf121L0,cf121E0,g1,g5,hget,e1,e2,gy,f1,f2,go_sem,seval]
   refine aB a1 (by simp only[go_sem,seval]) rfl ?_
   simp only[hxy,go_sem,seval]
   kernel_rfl
  ·simp only[cf121L0,cf121E0,g1,g5,hget,e1,e2,gy,f1,f2,go_sem,seval]
   refine aB a1 (by simp only[go_sem,seval]) rfl ?_
   simp only[hxy,ew,go_sem,seval]
   exact⟨by kernel_rfl,g1,g5,rfl⟩
end
end Go.Tev
end
