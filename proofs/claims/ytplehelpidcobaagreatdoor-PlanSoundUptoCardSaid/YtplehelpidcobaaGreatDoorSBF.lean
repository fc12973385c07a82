import Derived.Test.YtplehelpidcobaaGreatDoorSBE
set_option linter.all false
section
namespace Go.Tev
abbrev PS:=List Sp×Int
def mxI(a b:Int):Int:=if a<b then b else a
def cC(sz:List Int)(v:Nat):Int:=sz.getD v 0
def plc(P:List Sp)(v:Nat):Sp:=P.getD v (-1,0)
def en(p:Sp):Int:=wr .i64 (p.1+p.2)
def qT(sz:List Int)(s:PS)(v:Nat)(o:Int):PS:=(s.1.set v (o,cC sz v),mxI s.2 (en (o,cC sz v)))
def HH(sz:List Int)(s:PS)(l:List Nat):PS:=l.foldl (fun s v=>qT sz s v (fitS (s.1.take v) (cC sz v))) s
def lY(P:List Sp)(l:List Int):List Sp:=(l.map fun v=>plc P v.toNat).filter fun p=>decide (0<=p.1)
def AM(k:aA)(sz:List Int)(s:PS)(i:Nat)(q:aD):PS:=
 if 0<=(plc s.1 q.value.toNat).1 then s
 else if 0<=gF k i then qT sz s q.value.toNat (plc s.1 (gF k i).toNat).1
 else qT sz s q.value.toNat (fitS (lY s.1 (eE i (aF k))) (cC sz q.value.toNat))
def uE(k:aA)(sz:List Int):PS->Nat->List aD->PS
 |s,_,[]=>s
 |s,i,q::r=>uE k sz (AM k sz s i q) (i+1) r
theorem zA(k:aA)(sz:List Int)(q:aD):∀(d:List aD)(s:PS)(i:Nat),uE k sz s i (d++[q])=AM k sz (uE k sz s i d) (i+d.length) q
 |[],s,i=>by simp[uE]
 |x::d,s,i=>by
  rw[List.cons_append,uE,zA k sz q d,uE,List.length_cons]
  congr 1
  omega
theorem KZ(sz:List Int)(s:PS)(l:List Nat)(v:Nat):HH sz s (l++[v])=qT sz (HH sz s l) v (fitS ((HH sz s l).1.take v) (cC sz v)):=by simp[HH]
def ini(n:Nat):PS:=(List.replicate n (-1,0),0)
def nD(k:aA)(sz:List Int)(n:Nat):PS:=HH sz (ini k.values.es.length) (List.range n)
theorem vP(k:aA)(sz:List Int)(n:Nat):nD k sz (n+1)=qT sz (nD k sz n) n (fitS ((nD k sz n).1.take n) (cC sz n)):=by
 rw[nD,List.range_succ,KZ];rfl
def fQ(k:aA)(sz:List Int)(d:List aD):PS:=uE k sz (nD k sz k.inputs.toNat) 0 d
theorem yU(k:aA)(sz:List Int)(d:List aD)(q:aD):fQ k sz (d++[q])=AM k sz (fQ k sz d) d.length q:=by rw[fQ,zA,Nat.zero_add];rfl
theorem yP(sz:List Int)(s:PS)(v:Nat)(o:Int):(qT sz s v o).1.length=s.1.length:=by simp[qT]
theorem NI(k:aA)(sz:List Int)(s:PS)(i:Nat)(q:aD):(AM k sz s i q).1.length=s.1.length:=by
 rw[AM]
 split
 ·rfl
 ·split<;>exact yP _ _ _ _
theorem BP(k:aA)(sz:List Int):∀(d:List aD)(s:PS)(i:Nat),(uE k sz s i d).1.length=s.1.length
 |[],_,_=>rfl
 |q::d,s,i=>by rw[uE,BP k sz d,NI]
theorem rF(k:aA)(sz:List Int):∀n,(nD k sz n).1.length=k.values.es.length
 |0=>by simp[nD,HH,ini]
 |n+1=>by rw[vP,yP,rF k sz n]
theorem vG(k:aA)(sz:List Int)(d:List aD):(fQ k sz d).1.length=k.values.es.length:=by rw[fQ,BP,rF]
theorem I5(P:List Sp)(v w:Nat)(x:Sp):plc (P.set v x) w=if v=w/\v<P.length then x else plc P w:=by
 simp only[plc,List.getD_eq_getElem?_getD,List.getElem?_set]
 by_cases h:v=w
 ·subst h
  by_cases h2:v<P.length
  ·simp[h2]
  ·simp[h2]
 ·simp[h]
theorem WB{o z:Int}(h1 : -1<=o)(h2:o<=2000000000)(h3:0<=z)(h4:z<=1000000000):en (o,z)=o+z:=aV (by simp only;omega) (by simp only;omega)
theorem yT{sz:List Int}{s:PS}{v w:Nat}{o:Int}(h:v≠w):plc (qT sz s v o).1 w=plc s.1 w:=by
 simp only[qT];rw[I5,if_neg (fun x=>h x.1)]
theorem GW{sz:List Int}{s:PS}{v:Nat}{o:Int}(h:v<s.1.length):plc (qT sz s v o).1 v=(o,cC sz v):=by
 simp only[qT];rw[I5,if_pos ⟨rfl,h⟩]
theorem VY(a b:Int):a<=mxI a b/\b<=mxI a b:=by unfold mxI;split<;>omega
theorem VV(a b:Int):mxI a b=a\/mxI a b=b:=by unfold mxI;split<;>simp
end Go.Tev
end
section
namespace Go.Tev
theorem yF(ds:List Val):∀(a b:List Lin)(n:Int)(t:Bool),eqL bH a b=true->mQ ds n t a=mQ ds n t b
 |[],[],_,_,_=>rfl
 |[],_::_,_,_,h=>by simp[eqL]at h
 |_::_,[],_,_,h=>by simp[eqL]at h
 |x::a,y::b,n,t,h=>by
  simp only[eqL,Bool.and_eq_true]at h
  rw[mQ,mQ,HT ds h.1]
  exact yF ds a b _ _ h.2
theorem GO(ds:List Val){a b:Typ}(h:gG a b=true):d6 ds a=d6 ds b:=by
 simp only[gG,fD,Bool.and_eq_true]at h
 simp only[d6,eX]
 rw[yF ds _ _ _ _ h.2.2]
theorem sQ(f:Typ->Int):∀(sp:List Sp)(ts:List Typ)(n:Nat)(s:Sp)(t:Typ),sp[n]?=some s->ts[n]?=some t->(cZ f sp ts)[n]?=some (if s.1 = -2 then 0 else f t)
 |s::r,t::q,0,_,_,h1,h2=>by simp at h1 h2;subst h1 h2;simp[cZ]
 |s::r,t::q,n+1,_,_,h1,h2=>by
  simp only[List.getElem?_cons_succ]at h1 h2
  simp only[cZ,List.getElem?_cons_succ]
  exact sQ f r q n _ _ h1 h2
 |[],_,_,_,_,h1,_=>by simp at h1
 |_::_,[],_,_,_,_,h2=>by simp at h2
def cN(k:aA)(ds:List Val):List Int:=cZ (d6 ds) (aF k) k.values.es
theorem pC{k:aA}{v:Int}(h:(qK k v).1 ≠ -2):∃s,(aF k)[v.toNat]?=some s/\qK k v=s:=by
 rw[qK]at h ⊢
 cases hs:(aF k)[v.toNat]? with
 |none=>rw[hs]at h;exact absurd rfl h
 |some s=>exact⟨s,rfl,rfl⟩
theorem DV{k:aA}{ds:List Val}{v:Nat}{t:Typ}{s:Sp}(hs:(aF k)[v]?=some s)(h2:s.1 ≠ -2)(ht:k.values.es[v]?=some t):cC (cN k ds) v=d6 ds t:=by
 rw[cC,List.getD_eq_getElem?_getD,cN,sQ _ _ _ _ _ _ hs ht,if_neg h2]
 rfl
theorem w5{k:aA}(ok:fW k)(ds:List Val){d r:List aD}{q:aD}(hes:k.list.es=d++q::r)(hc:0<=gF k d.length) :
  ∃c:Nat,gF k d.length=c/\c<k.values.es.length/\(c<k.inputs.toNat\/∃x∈d,x.value.toNat=c)/\cC (cN k ds) c=cC (cN k ds) q.value.toNat:=by
 rcases pT (fun v=>kR k (d.length:Int) (v:Int)) k.values.es.length 0 with h|⟨c,h1,h2,_,h3⟩
 ·rw[gF,h]at hc;exact absurd hc (by decide)
 refine⟨c,h1,by omega,?_⟩
 have hget:k.list.es[d.length]?=some q:=by rw[hes];simp
 have hq0:=(eA (ok.ker d q r hes)).1
 have hin:0<=k.inputs:=by
  have:=ok.out
  simp only[aZ,Bool.and_eq_true,decide_eq_true_eq]at this
  obtain⟨_,⟨⟨⟨⟨⟨⟨_,_⟩,hi0⟩,_⟩,hiV⟩,_⟩,_⟩,_⟩:=this
  exact hi0
 simp only[kR,Int.toNat_natCast,hget]at h2
 cases ha:k.values.es[c]? with
 |none=>rw[ha]at h2;cases h2
 |some a=>
 rw[ha]at h2
 simp only at h2
 cases hb:k.values.es[q.value.toNat]? with
 |none=>rw[hb]at h2;cases h2
 |some b=>
 rw[hb]at h2
 simp only[KR,Bool.and_eq_true,decide_eq_true_eq,Bool.not_eq_true',decide_eq_false_iff_not]at h2
 obtain⟨_,⟨m1,m2,m3,m4⟩,m5,_⟩:=h2
 obtain⟨s,s1,s2⟩:=pC m3
 obtain⟨u,u1,u2⟩:=pC (k:=k) (v:=q.value) (by omega)
 rw[s2]at m3 m4
 rw[u2]at m2
 rw[Int.toNat_natCast]at s1
 constructor
 ·have hle:=yB k s (List.mem_of_getElem? s1)
  rcases mL (k:=k) (n:=c) (f:=s.1) (by rw[frm,s1];rfl) with h|⟨_,h⟩|⟨j,x,x1,x2,x3⟩
  ·exact absurd h m3
  ·exact .inl h
  ·right
   have hj:j<d.length:=by
    rcases Nat.lt_trichotomy j d.length with h|h|h
    ·exact h
    ·subst h
     rw[hget]at x1
     cases x1
     omega
    ·omega
   refine⟨x,?_,x2⟩
   rw[hes,List.getElem?_append_left hj]at x1
   exact List.mem_of_getElem? x1
 ·rw[DV s1 m3 ha,DV u1 (by omega) hb,GO ds m5]
end Go.Tev
end
section
namespace Go.Tev
def yY(k:aA)(ds:List Val)(r:AV):Prop:=
 if dW k ds=0 then ∃n1 c1 n2 c2,r = .tup [.agg [.sl n1 ((fQ k (cN k ds) k.list.es).1.map aR) c1,.sl n2 ((cJ k).map aG) c2,.int .i64 (fQ k (cN k ds) k.list.es).2],.int .i64 0]
 else r = .tup [.agg [.sl true [] true,.sl true [] true,.int .i64 0],.int .i64 (dW k ds)]
theorem D5{h:Hp}{k e:Nat}{sp:List Sp}(hg:h.get k=some (e,.blk (aK sp) 2 true false false))(n cap:Nat)(hn:n<=sp.length)(d:Nat):Tev.snap (d+2) h (.rf k e 0 n cap)=some (.sl false ((sp.take n).map aR) false,[k]):=by
 obtain⟨cs',h1,h2,h3,h4⟩:=cL (jP (sp.take n))
 rw[kW]at h1
 cases h1
 have h5:=h4 (aK (sp.drop n))
 have happ:∀a b:List Sp,aK a++aK b=aK (a++b):=by
  intro a b
  induction a with
  |nil=>rfl
  |cons x a ih=>simp[aK,ih]
 rw[happ,List.take_append_drop,List.length_map,List.length_take,Nat.min_eq_left hn]at h5
 have h6:cG (Tev.snap (d+1) h) ((sp.take n).map aR)=some ((sp.take n).map aR,[]):=d8 d h (fH _)
 rw[eD]
 simp only[hg,List.drop_zero,h5,h6]
 simp[AV.tree]
theorem P3{h:Hp}{cs:List AV}{k e n j:Nat}(hg:h.get k=some (e,.blk cs 2 true false false))(hj:j<=n):gB h 2 false true false [.rf k e 0 n n,.int .i64 j]=some (.rf k e 0 j n,.pat [k] []):=by
 simp only[gB,gS,gW,hg,Bool.false_eq_true,if_false,if_true,Option.getD_none,Option.getD_some]
 rw[if_pos ⟨trivial,trivial,by omega,by omega,by omega,by omega,by simp,.inl trivial⟩]
 simp
theorem G9{P:List Sp}{v n:Nat}(hn:P.length=n)(h:v<n):(aK P)[0+v*2+0]?=some (.int .i64 (plc P v).1):=by
 subst hn
 rw[Nat.zero_add,Nat.add_zero,(rN P v P[v] (List.getElem?_eq_getElem h)).1,plc,List.getD_eq_getElem?_getD,List.getElem?_eq_getElem h]
 rfl
theorem G6(P:List Sp)(d:List Int)(w:Int):lY P (d++[w])=lY P d++if 0<=(plc P w.toNat).1 then [plc P w.toNat] else []:=by
 simp only[lY,List.map_append,List.filter_append,List.map_cons,List.map_nil]
 congr 1
 by_cases h:0<=(plc P w.toNat).1<;>simp[h]
theorem BM(P:List Sp)(d:List Int):(lY P d).length<=d.length:=by
 simp only[lY]
 exact Nat.le_trans (List.length_filter_le _ _) (by simp)
theorem QE{P:List Sp}{v n:Nat}(hn:P.length=n)(h:v<n):P[v]?=some (plc P v):=by
 subst hn
 rw[plc,List.getD_eq_getElem?_getD,List.getElem?_eq_getElem h];rfl
structure MH(k:aA)(sz:List Int)(n2 c2:Bool)(s:PS)(hp:Hp):Prop where
 g1:hp.get 1=some (0,.blk k.cells 6 true true false)
 g5:hp.get 5=some (0,.blk [.sl true [] true,.sl true [] true,.int .i64 0] 3 true true false)
 g13:hp.get 13=some (0,.blk [.sl false (sz.map aG) true] 1 false true false)
 g21:hp.get 21=some (0,.blk (aK s.1) 2 true false false)
 g25:hp.get 25=some (0,.blk [.rf 21 0 0 k.values.es.length k.values.es.length,.sl n2 ((cJ k).map aG) c2,.int .i64 s.2] 3 true true false)
theorem MH.put{k:aA}{sz:List Int}{n2 c2:Bool}{s:PS}{hp:Hp}(m:MH k sz n2 c2 s hp)(v:Nat)(o:Int) :
  MH k sz n2 c2 (qT sz s v o) ((hp.put 21 0 (.blk (aK (s.1.set v (o,cC sz v))) 2 true false false)).put 25 0 (.blk [.rf 21 0 0 k.values.es.length k.values.es.length,.sl n2 ((cJ k).map aG) c2,.int .i64 (if s.2<wr .i64 (o+cC sz v) then wr .i64 (o+cC sz v) else s.2)] 3 true true false)):=by
 refine⟨?_,?_,?_,?_,?_⟩
 ·rw[aH,if_neg (by decide),aH,if_neg (by decide)];exact m.g1
 ·rw[aH,if_neg (by decide),aH,if_neg (by decide)];exact m.g5
 ·rw[aH,if_neg (by decide),aH,if_neg (by decide)];exact m.g13
 ·rw[aH,if_neg (by decide),aH,if_pos rfl];rfl
 ·rw[aH,if_pos rfl];rfl
theorem MH.other{k:aA}{sz:List Int}{n2 c2:Bool}{s:PS}{hp:Hp}(m:MH k sz n2 c2 s hp)(j e:Nat)(o:Ob)(hj:(j==1||j==5||j==13||j==21||j==25)=false):MH k sz n2 c2 s (hp.put j e o):=by
 simp only[Bool.or_eq_false_iff,beq_eq_false_iff_ne]at hj
 obtain⟨⟨⟨⟨h1,h5⟩,h13⟩,h21⟩,h25⟩:=hj
 exact⟨by rw[aH,if_neg h1];exact m.g1,by rw[aH,if_neg h5];exact m.g5,by rw[aH,if_neg h13];exact m.g13,by rw[aH,if_neg h21];exact m.g21,by rw[aH,if_neg h25];exact m.g25⟩
theorem L4{k:aA}(ok:fW k)(ds:List Val):(cN k ds).length=k.values.es.length:=by
 have hso:=ok.out
 simp only[aZ,Bool.and_eq_true,decide_eq_true_eq]at hso
 obtain⟨_,⟨⟨⟨⟨⟨⟨_,_⟩,hi0⟩,_⟩,hiV⟩,_⟩,_⟩,_⟩:=hso
 have hl:=gV (k:=k) (by omega)
 have:∀(f:Typ->Int)(a:List Sp)(b:List Typ),a.length=b.length->(cZ f a b).length=b.length:=by
  intro f a
  induction a with
  |nil=>intro b h;simp at h;simp[cZ,<-h]
  |cons x a ih=>intro b h;cases b with
   |nil=>simp at h
   |cons y b=>simp at h;simp[cZ,ih b h]
 exact this _ _ _ hl
section
variable{pg:Pg}
set_option maxHeartbeats 8000000 in
theorem c615(hf:pg.fs 615=some cf615)(h625:pg.fs 625=some cf625)
  (k:aA) (K:KOK k) (nl cl:Bool) (ds:List Val) (h16:Ret pg 16 [k.av,.sl nl (ds.map Val.av) cl] (fY k ds)) (h262:bJ pg 262 [k.av] (LD k))
  (h624:∀(nl cl:Bool)(a b:Int)(n:Nat),n<=big->bJ pg 624 [.sl nl [.agg [.int .i64 a,.int .i64 b]] cl,.int .i64 n] (kO 2 true (List.replicate n (.agg [.int .i64 a,.int .i64 b]))))
  (h623:∀(nl cl:Bool)(es:List Sp),es.length<=big->(nl=true->es=[])->∀s:Int,Ret pg 623 [.sl nl (es.map aR) cl,.int .i64 s] (.int .i64 (fitS es s)))
  (h11:∀at_:Int,bJ pg 11 [k.av,.int .i64 at_] (kS k at_)):bJ pg 615 [k.av,.sl nl (ds.map Val.av) cl] (yY k ds):=by
 obtain⟨r2,a2,s2⟩:=h262
 have hVb:=k.values.ok
 have a3:=h624 false true (-1) 0 k.values.es.length hVb
 rw[aA.avc]at h16 a2
 refine bJ.ofX hf ?_
 unfold cf615
 by_cases hx:dW k ds=0
 case neg=>
  rw[fY,if_neg hx]at h16
  have e1:decide (dW k ds=0)=false:=by simpa using hx
  simp only[go_sem,seval]
  refine aB h16 (by simp only[go_sem,seval]) rfl ?_
  simp only[e1,go_sem,seval]
  rw[yY,if_neg hx]
 have ok:=eH (gC hx).1
 rw[fY,if_pos hx]at h16
 rw[LD,if_pos (gC hx).1]at s2
 obtain⟨n2,c2,hn2,rfl⟩:=s2
 have hfold:cZ (d6 ds) (aF k) k.values.es=cN k ds:=rfl
 rw[hfold]at h16
 generalize hsz:cN k ds=sz at h16
 have hrep:List.replicate k.values.es.length (AV.agg [.int .i64 (-1),.int .i64 0])=(ini k.values.es.length).1.map aR:=by simp[ini,aR]
 have hl0:(ini k.values.es.length).1.length=k.values.es.length:=by simp[ini]
 have hV:0<k.values.es.length:=by
  obtain⟨v,hv⟩:=List.exists_mem_of_length_pos ok.one
  have:=ok.res v hv
  omega
 have hfin:∀r,(∃n1 c1 n2 c2,r = .tup [.agg [.sl n1 ((fQ k sz k.list.es).1.map aR) c1,.sl n2 ((cJ k).map aG) c2,.int .i64 (fQ k sz k.list.es).2],.int .i64 0])->yY k ds r:=by
  intro r h
  unfold yY
  rw[if_pos hx,hsz]
  exact h
 rw[hrep]at a3
 simp only[go_sem,seval]
 refine aB h16 (by simp only[go_sem,seval]) rfl ?_
 simp only[go_sem,seval]
 refine aB a2 (by simp only[go_sem,seval]) rfl ?_
 simp only[go_sem,seval]
 refine xO a3 (by simp only[go_sem,seval]) (jP _) (fun he=>?_) (fun cs hcs _=>?_)
 ·have:=congrArg List.length he
  rw[List.length_map,hl0,List.length_nil]at this
  omega
 rw[kW]at hcs
 cases hcs
 rw[List.length_map,hl0]
 simp only[go_sem,seval]
 have hzl:sz.length=k.values.es.length:=by rw[<-hsz];exact L4 ok ds
 have hzg:∀v,v<k.values.es.length->sz[v]?=some (cC sz v):=fun v hv=>by rw[cC,List.getD_eq_getElem?_getD,List.getElem?_eq_getElem (by omega)];rfl
 have hin:0<=k.inputs/\k.inputs<=k.values.es.length:=by
  have hso:=ok.out
  simp only[aZ,Bool.and_eq_true,decide_eq_true_eq]at hso
  obtain⟨_,⟨⟨⟨⟨⟨⟨_,_⟩,hi0⟩,_⟩,hiV⟩,_⟩,_⟩,_⟩:=hso
  exact⟨hi0,hiV⟩
 obtain⟨ins,hins⟩:∃n:Nat,k.inputs=n:=⟨k.inputs.toNat,by omega⟩
 have hinV:ins<=k.values.es.length:=by omega
 refine aI (List.range ins) (fun d r env hp=>env=cf615E0 (.pt 1 0 0) (.pt 5 0 0) (.pt 13 0 0) (.sl n2 ((cJ k).map aG) c2) (.pt 25 0 0) (.fn 625 [.pt 13 0 0,.pt 25 0 0]) (.int .i64 k.inputs) (.int .i64 d.length)/\MH k sz n2 c2 (nD k sz d.length) hp) ?_ ?_ ?_
 ·refine⟨rfl,⟨?_,?_,?_,?_,?_⟩⟩<;>(simp only[go_sem,seval];try rfl)
 ·rintro env hp ⟨rfl,m⟩
  have hr:(List.range ins).length=ins:=List.length_range
  rw[hr]at m ⊢
  have e1:decide ((ins:Int)<k.inputs)=false:=by simp;omega
  have g1:=m.g1
  simp only[aA.cells,Sl.av]at g1
  have m0:MH k sz n2 c2 (fQ k sz []) hp:=by
   rw[show fQ k sz []=nD k sz ins from by rw[fQ,hins,Int.toNat_natCast];rfl];exact m
  simp only[cf615L0,cf615E0,e1,g1,go_sem,seval]
  clear m g1 e1
  have hlb:=k.list.ok
  refine aI k.list.es (fun d r env hp=>env=cf615E2 (.pt 1 0 0) (.pt 5 0 0) (.pt 13 0 0) (.sl n2 ((cJ k).map aG) c2) (.pt 25 0 0) (.fn 625 [.pt 13 0 0,.pt 25 0 0]) (.sl k.list.nl (k.list.es.map aD.av) k.list.cl) (.int .i64 k.list.es.length) (.int .i64 d.length)/\MH k sz n2 c2 (fQ k sz d) hp) ?_ ?_ ?_
  ·exact⟨rfl,m0⟩
  ·clear m0 hp
   rintro env hp ⟨rfl,m⟩
   obtain⟨g1,g5,g13,g21,g25⟩:=m
   have hl:=vG k sz k.list.es
   have hsn:=fun X=>D5 (h:=Hp.put hp 5 0 X) (k:=21) (e:=0) (sp:=(fQ k sz k.list.es).1) (by rw[aH,if_neg (by decide)];exact g21) k.values.es.length k.values.es.length (by omega) 60
   rw[List.take_of_length_le (by omega)]at hsn
   simp only[cf615L2,cf615E2,aW,g25,g5,↓hsn,go_sem,seval]
   simp only[Tev.conv,depth,eD,bW,bB,↓hsn,go_sem]
   exact hfin _ ⟨_,_,_,_,rfl⟩
  ·clear m0 hp
   rintro d q r env hp hes ⟨rfl,m⟩
   have hstep:=yU k sz d q
   obtain⟨hget,e1,e2,ew⟩:=cF hes hlb
   obtain⟨w1,w2,_⟩:=eA (ok.ker d q r hes)
   obtain⟨v,hv⟩:∃v:Nat,q.value=v:=⟨q.value.toNat,by omega⟩
   have hvV:v<k.values.es.length:=by omega
   have f1:(0<=(v:Int))=True:=eq_true (by omega)
   have f2:((v:Int)<(k.values.es.length:Int))=True:=eq_true (by omega)
   have m0:=m
   obtain⟨g1,g5,g13,g21,g25⟩:=m
   have g10:=g1
   simp only[aA.cells,Sl.av]at g1
   have hsl:=vG k sz d
   generalize hs:fQ k sz d=s at *
   have l1:=G9 hsl hvV
   rw[AM,hv,Int.toNat_natCast]at hstep
   have hc1:(0+v*2+0<(aK s.1).length)=True:=eq_true (by rw[cO];omega)
   by_cases h0:0<=(plc s.1 v).1
   ·have h0':decide (0<=(plc s.1 v).1)=true:=by simpa using h0
    simp only[cf615L2,cf615E2,e1,e2,hget,aD.avc,g25,g21,hv,f1,f2,l1,h0',go_sem,seval]
    rw[if_pos h0]at hstep
    simp only[ew,go_sem,seval]
    exact⟨rfl,by rw[hstep];exact(m0.other 37 _ _ rfl).other 37 _ _ rfl⟩
   have h0':decide (0<=(plc s.1 v).1)=false:=by simpa using h0
   rw[if_neg h0]at hstep
   have hcl:(cJ k).length=k.list.es.length:=by simp[cJ]
   have hdl:d.length<k.list.es.length:=by rw[hes];simp
   have hch:((cJ k).map aG)[d.length]?=some (aG (gF k d.length)):=by
    rw[List.getElem?_map,pW,mG,List.getElem?_map,List.getElem?_range hdl];rfl
   have f3:((d.length:Int)<((cJ k).length:Int))=True:=eq_true (by omega)
   have hzv:=hzg v hvV
   have hz':(sz.map aG)[v]?=some (aG (cC sz v)):=by rw[List.getElem?_map,hzv];rfl
   have f4:((v:Int)<(sz.length:Int))=True:=eq_true (by omega)
   by_cases h5:0<=gF k d.length
   ·have h5':decide (0<=gF k d.length)=true:=by simpa using h5
    rw[if_pos h5]at hstep
    obtain⟨c,c1,c2',c3,c4⟩:=w5 ok ds hes h5
    rw[c1,Int.toNat_natCast]at hstep
    rw[c1]at h5' hch
    have f5:(0<=(c:Int))=True:=eq_true (by omega)
    have f6:((c:Int)<(k.values.es.length:Int))=True:=eq_true (by omega)
    have l2:=G9 hsl c2'
    simp only[cf615L2,cf615E2,e1,e2,hget,aD.avc,g25,g21,hv,f1,f2,l1,h0',hch,f3,h5',f5,f6,l2,go_sem,seval]
    refine jO (.inl rfl) rfl (c625 h625 _ _ 13 0 25 0 21 0 (by decide) (by decide) (by decide) false true sz s.1 (.sl n2 ((cJ k).map aG) c2) s.2 (plc s.1 c).1 (cC sz v) v _ hsl ?_ ?_ ?_ hvV hzv) ?_
    ·simp only[g13,go_sem,seval]
    ·simp only[g25,go_sem,seval]
    ·simp only[g21,go_sem,seval]
    have M:=fun e1 o1 e2 o2=>((m0.other 37 e1 o1 rfl).other 37 e2 o2 rfl).put v (plc s.1 c).1
    rw[<-hstep]at M
    simp only[go_sem,seval]
    refine⟨by kernel_rfl,?_⟩
    simp only[ew,go_sem,seval]
    exact⟨by kernel_rfl,by simpa using M _ _ _ _⟩
   ·have h5':decide (0<=gF k d.length)=false:=by simpa using h5
    rw[if_neg h5]at hstep
    obtain⟨r11,a11,s11⟩:=h11 d.length
    unfold kS at s11
    rw[if_pos (gC hx).1,if_neg (by omega)]at s11
    obtain⟨n3,c3,rfl⟩:=s11
    rw[aA.avc]at a11
    have hspl:(aF k).length=k.values.es.length:=gV (by omega)
    have hlvb:(eE d.length (aF k)).length<=big:=by
     have:(eE d.length (aF k)).length<=(aF k).length:=by
      simp only[eE,List.length_map]
      exact Nat.le_trans (List.length_filter_le _ _) (by simp)
     omega
    have hlv:∀w∈eE d.length (aF k),0<=w/\w.toNat<k.values.es.length:=fun w hw=>by
     obtain⟨u,u1,u2,_⟩:=iW.1 hw
     have:=(List.getElem?_eq_some_iff.1 u2).1
     exact⟨u1,by omega⟩
    generalize eE d.length (aF k)=lv at *
    simp only[cf615L2,cf615E2,e1,e2,hget,aD.avc,g25,g21,hv,f1,f2,l1,h0',hch,f3,h5',g1,go_sem,seval]
    refine aB a11 (by simp only[go_sem,seval]) rfl ?_
    simp only[go_sem,seval]
    generalize hp.next 37=e37
    refine aI lv (fun d2 r2 env hp'=>∃vl,env=cf615E1 (.pt 1 0 0) (.pt 5 0 0) (.pt 13 0 0) (.sl n2 ((cJ k).map aG) c2) (.pt 25 0 0) (.fn 625 [.pt 13 0 0,.pt 25 0 0]) (.pt 37 e37 0) vl (.sl k.list.nl (k.list.es.map aD.av) k.list.cl) (.int .i64 k.list.es.length) (.int .i64 d.length) (.sl n3 (lv.map aG) c3) (.int .i64 lv.length) (.int .i64 d2.length) /\
     MH k sz n2 c2 s hp'/\(∃cs,hp'.get 37=some (e37,.blk (.int .i64 q.kind :: .int .i64 v::cs) 24 true true false))/\Own hp' 49 2 true vl ((lY s.1 d2).map aR)) ?_ ?_ ?_
    ·exact⟨_,rfl,(m0.other 37 _ _ rfl).other 37 _ _ rfl,⟨_,by rw[aH,if_pos rfl]⟩,Own.nil _ _ _ _ _ _ rfl⟩
    ·clear m0 g1 g5 g13 g21 g25 g10 hp
     rintro env hp ⟨vl,rfl,m0,⟨cs,g37⟩,ho⟩
     obtain⟨nl8,cl8,keys,hsn,hnl⟩:=ho.snap (jP _) 62
     have hll:=BM s.1 lv
     have a5:=h623 nl8 cl8 (lY s.1 lv) (by omega) (fun h=>by simpa using hnl h) (cC sz v)
     have g13:=m0.g13
     have g25:=m0.g25
     have M:=m0.put v (fitS (lY s.1 lv) (cC sz v))
     rw[<-hstep]at M
     simp only[cf615L1,cf615E1,aW,g37,g13,f1,f4,hz',go_sem,seval]
     refine bQ a5 (vK hsn rfl) (v:=.int .i64 (fitS (lY s.1 lv) (cC sz v))) (pa:=[]) rfl ?_
     simp only[go_sem,seval]
     refine jO (.inl rfl) rfl (c625 h625 _ _ 13 0 25 0 21 0 (by decide) (by decide) (by decide) false true sz s.1 (.sl n2 ((cJ k).map aG) c2) s.2 (fitS (lY s.1 lv) (cC sz v)) (cC sz v) v _ hsl g13 g25 m0.g21 hvV hzv) ?_
     simp only[go_sem,seval]
     refine⟨by kernel_rfl,?_⟩
     simp only[ew,go_sem,seval]
     exact⟨by kernel_rfl,by simpa using M⟩
    ·clear m0 g1 g5 g13 g21 g25 g10 hp
     rintro d2 w r2 env hp hes2 ⟨vl,rfl,m0,⟨cs,g37⟩,ho⟩
     obtain⟨hget2,p1,p2,pw⟩:=cF hes2 hlvb
     obtain⟨w0,w1'⟩:=hlv w (by rw[hes2];simp)
     obtain⟨u,hu⟩:∃u:Nat,w=u:=⟨w.toNat,by omega⟩
     subst hu
     rw[Int.toNat_natCast]at w1'
     have t1:(0<=(u:Int))=True:=eq_true (by omega)
     have t2:((u:Int)<(k.values.es.length:Int))=True:=eq_true (by omega)
     have l3:=G9 hsl w1'
     obtain⟨t3,t4⟩:=IX s.1 u _ (QE hsl w1')
     have g25:=m0.g25
     have g21:=m0.g21
     have hsno:=G6 s.1 d2 u
     rw[Int.toNat_natCast]at hsno
     have hget2':(lv.map aG)[d2.length]?=some (aG u):=by rw[List.getElem?_map,hget2];rfl
     have hl2:=BM s.1 d2
     have hd2:d2.length+1<=big:=by rw[hes2]at hlvb;simp at hlvb;omega
     by_cases h6:0<=(plc s.1 u).1
     ·have h6':decide (0<=(plc s.1 u).1)=true:=by simpa using h6
      rw[if_pos h6]at hsno
      simp only[cf615L1,cf615E1,p1,p2,hget2,hget2',g25,g21,t1,t2,l3,h6',t3,t4,go_sem,seval]
      refine fV (kb:=0) (s:=49) (ho.mono ?_) (jP _) (xs:=[aR (plc s.1 u)]) (jP [plc s.1 u]) (by simp only[List.length_map,List.length_singleton,big]at *;omega) (by decide) ?_
      ·simp only[go_sem,seval]
      intro v' rd pa ho2 hk2 _
      simp only[pw,go_sem,seval]
      refine⟨v',rfl,?_,⟨cs,?_⟩,?_⟩
      ·exact⟨by rw[hk2 1 (by omega)];exact m0.g1,by rw[hk2 5 (by omega)];exact m0.g5,by rw[hk2 13 (by omega)];exact m0.g13,by rw[hk2 21 (by omega)];exact m0.g21,by rw[hk2 25 (by omega)];exact m0.g25⟩
      ·rw[hk2 37 (by omega)];exact g37
      ·rw[hsno,List.map_append];simpa using ho2
     ·have h6':decide (0<=(plc s.1 u).1)=false:=by simpa using h6
      rw[if_neg h6,List.append_nil]at hsno
      simp only[cf615L1,cf615E1,p1,p2,hget2,hget2',g25,g21,t1,t2,l3,h6',pw,go_sem,seval]
      exact⟨vl,rfl,m0,⟨cs,g37⟩,by rw[hsno];exact ho⟩
 ·rintro d x r env hp hes ⟨rfl,m⟩
  obtain⟨rfl,hlt⟩:=hZ hes
  have hb3:(d++d.length::r).length<=big:=by rw[<-hes];simp;omega
  have hw:=aM hb3
  have e1:decide ((d.length:Int)<k.inputs)=true:=by simp;omega
  have e2:((d.length:Int)<(sz.length:Int))=True:=eq_true (by omega)
  have e3:((d.length:Int)<=(k.values.es.length:Int))=True:=eq_true (by omega)
  have hz:=hzg d.length (by omega)
  have hz':(sz.map aG)[d.length]?=some (aG (cC sz d.length)):=by rw[List.getElem?_map,hz];rfl
  have m0:=m
  obtain⟨g1,g5,g13,g21,g25⟩:=m
  have hsl:=rF k sz d.length
  have hsucc:=vP k sz d.length
  generalize hs:nD k sz d.length=s at *
  have hsn:=D5 g21 d.length k.values.es.length (by omega) 62
  have a4:=h623 false false (s.1.take d.length) (by rw[List.length_take];omega) (by simp) (cC sz d.length)
  clear hes
  simp only[cf615L0,cf615E0,e1,g13,g25,e2,e3,hz',↓P3 g21 (show d.length<=k.values.es.length by omega),go_sem,seval]
  refine bQ a4 (vK hsn rfl) (v:=.int .i64 (fitS (s.1.take d.length) (cC sz d.length))) (pa:=[]) rfl ?_
  simp only[go_sem,seval]
  refine jO (.inl rfl) rfl (c625 h625 _ _ 13 0 25 0 21 0 (by decide) (by decide) (by decide) false true sz s.1 (.sl n2 ((cJ k).map aG) c2) s.2 (fitS (s.1.take d.length) (cC sz d.length)) (cC sz d.length) d.length _ hsl g13 g25 g21 (by omega) hz) ?_
  have M:=m0.put d.length (fitS (s.1.take d.length) (cC sz d.length))
  rw[<-hsucc]at M
  simp only[go_sem,seval]
  refine⟨by kernel_rfl,?_⟩
  simp only[hw,go_sem,seval]
  exact⟨by kernel_rfl,by simpa using M⟩
end
end Go.Tev
end
section
namespace Go.Tev
structure MR(k:aA)(n2 c2:Bool)(e:Nat)(P:List Sp)(pk:Int)(hp:Hp):Prop where
 g1:hp.get 1=some (0,.blk k.cells 6 true true false)
 g5:hp.get 5=some (0,.blk [.sl true [] true,.sl true [] true,.int .i64 0] 3 true true false)
 g17:hp.get 17=some (0,.blk [.rf 21 e 0 k.values.es.length k.values.es.length,.sl n2 ((cJ k).map aG) c2,.int .i64 pk] 3 true true false)
 g21:hp.get 21=some (e,.blk (aK P) 2 true false false)
theorem MR.other{k:aA}{n2 c2:Bool}{e:Nat}{P:List Sp}{pk:Int}{hp hp':Hp}(m:MR k n2 c2 e P pk hp)(j:Nat)(hj:21<j)(h:∀i,i≠j->hp'.get i=hp.get i):MR k n2 c2 e P pk hp':=
 ⟨by rw[h 1 (by omega)];exact m.g1,by rw[h 5 (by omega)];exact m.g5,by rw[h 17 (by omega)];exact m.g17,by rw[h 21 (by omega)];exact m.g21⟩
theorem MR.put{k:aA}{n2 c2:Bool}{e:Nat}{P:List Sp}{pk:Int}{hp:Hp}(m:MR k n2 c2 e P pk hp)(Q:List Sp):MR k n2 c2 e Q pk (hp.put 21 e (.blk (aK Q) 2 true false false)):=
 ⟨by rw[aH,if_neg (by decide)];exact m.g1,by rw[aH,if_neg (by decide)];exact m.g5,by rw[aH,if_neg (by decide)];exact m.g17,by rw[aH,if_pos rfl]⟩
section
variable{pg:Pg}
end
end Go.Tev
end
section
namespace Go.Tev
theorem wT(sp:List Sp)(i:Nat)(q:aD)(n:Nat):frm (iD sp i q) n=if q.value.toNat=n/\frm sp n=some (-2) then some (i:Int) else frm sp n:=by
 rw[iD,oU,vS]
 by_cases hv:q.value.toNat=n
 ·subst hv
  simp only[true_and]
  cases hs:sp[q.value.toNat]? with
  |none=>
   have hf:gE sp q.value=0:=by simp[gE,hs]
   simp[hf,frm,hs]
  |some s=>
   have hf:gE sp q.value=s.1:=by simp[gE,hs]
   by_cases h2:s.1 = -2
   ·simp[hf,h2,frm,fO,List.getElem?_modify,hs]
   ·simp[hf,h2,frm,hs]
 ·rw[if_neg (fun h:q.value.toNat=n/\frm sp n=some (-2)=>hv h.1)]
  cases decide (gE sp q.value = -2)
  ·simp
  ·simp only[if_true,frm,fO,List.getElem?_modify]
   cases sp[n]?<;>simp[hv]
theorem uK:∀(L:List aD)(sp:List Sp)(i n:Nat)(f:Int),frm sp n=some f->f ≠ -2->frm (eO sp i L) n=some f
 |[],_,_,_,_,h,_=>h
 |q::r,sp,i,n,f,h,hf=>by
  rw[eO]
  refine uK r _ _ n f ?_ hf
  rw[wT,if_neg (fun x=>hf (by rw[h]at x;simpa using x.2)),h]
theorem E8:∀(L:List aD)(sp:List Sp)(i j:Nat)(q:aD),L[j]?=some q->q.value.toNat<sp.length->∃f,frm (eO sp i L) q.value.toNat=some f/\f ≠ -2/\(f<=((i+j:Nat):Int)\/frm sp q.value.toNat=some f)
 |[],_,_,j,_,h,_=>by simp at h
 |x::r,sp,i,0,q,h,hl=>by
  simp at h
  subst h
  rw[eO]
  have hs:=wT sp i x x.value.toNat
  obtain⟨g,hg⟩:∃g,frm sp x.value.toNat=some g:=⟨_,by rw[frm,List.getElem?_eq_getElem hl];rfl⟩
  by_cases h2:g = -2
  ·rw[if_pos ⟨rfl,by rw[hg,h2]⟩]at hs
   exact⟨i,uK r _ _ _ _ hs (by omega),by omega,.inl (by simp)⟩
  ·rw[if_neg (fun y=>h2 (by rw[hg]at y;simpa using y.2)),hg]at hs
   exact⟨g,uK r _ _ _ _ hs h2,h2,.inr hg⟩
 |x::r,sp,i,j+1,q,h,hl=>by
  rw[eO]
  obtain⟨f,h1,h2,h3⟩:=E8 r (iD sp i x) (i+1) j q (by simpa using h) (by rw[sJ];exact hl)
  refine⟨f,h1,h2,?_⟩
  rcases h3 with h3|h3
  ·left;omega
  ·rcases E7 _ _ _ _ _ h3 with h|⟨_,h⟩
   ·exact .inr h
   ·left;omega
theorem zG(k:aA)(n:Nat):frm (aF k) n=frm (eO (cE k.values.es.length k.inputs.toNat) 0 k.list.es) n:=by
 rw[aF,show lX=fun sp n l=>cU sp n l from rfl]
 exact oU _ _ _ _
theorem NY{V I n:Nat}(h:n<I):frm (cE V I) n=some (-1):=by
 simp[frm,cE,List.getElem?_append,List.getElem?_replicate,h]
theorem FB{k:aA}{n:Nat}(h:n<k.inputs.toNat):frm (aF k) n=some (-1):=by
 rw[zG]
 exact uK _ _ _ _ _ (NY h) (by decide)
theorem HL{k:aA}(hi:k.inputs.toNat<=k.values.es.length){j:Nat}{q:aD}(hj:k.list.es[j]?=some q)(hv:q.value.toNat<k.values.es.length) :
  ∃f,frm (aF k) q.value.toNat=some f/\f ≠ -2/\f<=(j:Int):=by
 obtain⟨f,h1,h2,h3⟩:=E8 k.list.es (cE k.values.es.length k.inputs.toNat) 0 j q hj (by rw[jR hi];exact hv)
 refine⟨f,by rw[zG];exact h1,h2,?_⟩
 rcases h3 with h3|h3
 ·simpa using h3
 ·simp only[frm,cE,List.getElem?_append,List.getElem?_replicate,List.length_replicate]at h3
  split at h3
  ·simp at h3;omega
  ·split at h3
   ·simp at h3;omega
   ·simp at h3
theorem fit_ok{l:List Sp}{s:Int}(h:∀p∈l,jY p=false)(h0:0<=s)(h1:s<=1000000000):AQ s l (fitS l s)/\u5 s l (fitS l s):=by
 have hb:¬(s<0\/1000000000<s\/l.any jY=true):=by
  rintro(h2|h2|h2)
  ·omega
  ·omega
  ·obtain⟨p,hp,h3⟩:=List.any_eq_true.1 h2
   rw[h p hp]at h3;cases h3
 rw[fitS,if_neg hb]
 by_cases hs:s=0
 ·subst hs
  rw[fitScan_zero]
  refine⟨min_zero _ _,fun p _=>?_⟩
  simp[gP]
 ·exact yH (by omega) (A3 l) (tP l)
theorem fit_le{l:List Sp}{s pk:Int}(h:AQ s l (fitS l s))(h0:0<=pk)(hp:∀p∈l,p.1+p.2<=pk):fitS l s<=pk:=by
 by_cases ha:fitS l s<=0
 ·omega
 ·obtain⟨p,h1,h2⟩:=h.2 (fitS l s-1) (by omega) (by omega)
  have:=(gO.1 h2).2.2.2
  have:=hp p h1
  simp only at *
  omega
def S2:List Sp->Int
 |[]=>0
 |p::r=>p.2+S2 r
theorem PT:∀(P:List Sp)(v:Nat)(x:Sp),v<P.length->(plc P v).2=0->S2 (P.set v x)=S2 P+x.2
 |[],_,_,h,_=>by simp at h
 |p::r,0,x,_,h=>by
  simp only[plc,List.getD_cons_zero]at h
  simp only[List.set_cons_zero,S2]
  omega
 |p::r,v+1,x,h,h0=>by
  simp only[plc,List.getD_cons_succ]at h0
  simp only[List.set_cons_succ,S2,PT r v x (by simpa using h) h0]
  omega
theorem RY:∀(P:List Sp)(c:Int),(∀p∈P,p.2<=c)->S2 P<=c*P.length
 |[],c,_=>by simp[S2]
 |p::r,c,h=>by
  have h1:=h p (by simp)
  have h2:=RY r c (fun q hq=>h q (by simp[hq]))
  simp only[S2,List.length_cons]
  have:c*((r.length+1:Nat):Int)=c*(r.length:Int)+c:=by rw[Int.natCast_add];simp[Int.mul_add]
  omega
def SS(sz:List Int):Nat->Int
 |0=>0
 |n+1=>SS sz n+cC sz n
theorem DQ{sz:List Int}(hz:∀v,0<=cC sz v/\cC sz v<=4096):∀{m n:Nat},m<=n->SS sz m<=SS sz n
 |m,0,h=>by obtain rfl:m=0:=by omega
            exact Int.le_refl _
 |m,n+1,h=>by
  by_cases he:m=n+1
  ·subst he;exact Int.le_refl _
  ·have:=DQ (sz:=sz) hz (show m<=n by omega)
   have:=(hz n).1
   rw[SS];omega
theorem F9{sz:List Int}(b:Int)(h0:0<=b):∀n,b<SS sz n->∃u,u<n/\SS sz u<=b/\b<SS sz u+cC sz u
 |0,h=>by rw[SS]at h;omega
 |n+1,h=>by
  by_cases hb:b<SS sz n
  ·obtain⟨u,h1,h2⟩:=F9 b h0 n hb
   exact⟨u,by omega,h2⟩
  ·exact⟨n,by omega,by omega,by rw[SS]at h;exact h⟩
def Exc(k:aA)(v:Nat)(a b:Sp):Prop:=∃j:Nat,b.1=j/\a.2=j/\gF k j=(v:Int)
structure Inv(k:aA)(sz:List Int)(D:Nat->Prop)(s:PS):Prop where
 len:s.1.length=k.values.es.length
 pl:∀v,D v->0<=(plc s.1 v).1/\(plc s.1 v).2=cC sz v
 no:∀v,¬D v->plc s.1 v=(-1,0)
 dj:∀(v w:Nat)(a b:Sp),D v->D w->v≠w->(aF k)[v]?=some a->(aF k)[w]?=some b->a.1<=b.1->b.1<=a.2->gP (plc s.1 v) (plc s.1 w)=true->Exc k v a b/\(plc s.1 v).1=(plc s.1 w).1
 pe:∀v,D v->(plc s.1 v).1+(plc s.1 v).2<=s.2
 nn:0<=s.2
 up:s.2<=S2 s.1
 inp:∀v,v<k.inputs.toNat->D v->0<cC sz v->(plc s.1 v).1=SS sz v
theorem Inv.iff{k:aA}{sz:List Int}{D E:Nat->Prop}{s:PS}(h:Inv k sz D s)(e:∀v,D v↔E v):Inv k sz E s:=by
 have:D=E:=funext fun v=>propext (e v)
 rw[<-this];exact h
theorem Inv.dec{k:aA}{sz:List Int}{D:Nat->Prop}{s:PS}(h:Inv k sz D s){v:Nat}(hv:0<=(plc s.1 v).1):D v:=by
 by_cases hd:D v
 ·exact hd
 ·rw[h.no v hd]at hv;simp at hv
theorem Inv.sm{k:aA}{sz:List Int}(hz:∀v,0<=cC sz v/\cC sz v<=4096)(hn:k.values.es.length<=20){D:Nat->Prop}{s:PS}(h:Inv k sz D s):s.2<=81920:=by
 have h1:=RY s.1 4096 (fun p hp=>by
  obtain⟨v,hv⟩:=List.mem_iff_getElem?.1 hp
  have e:plc s.1 v=p:=by rw[plc,List.getD_eq_getElem?_getD,hv];rfl
  by_cases hd:D v
  ·rw[<-e,(h.pl v hd).2];exact(hz v).2
  ·rw[<-e,h.no v hd];decide)
 have h2:=h.up
 have h3:=h.len
 omega
theorem Inv.bad{k:aA}{sz:List Int}(hz:∀v,0<=cC sz v/\cC sz v<=4096)(hn:k.values.es.length<=20){D:Nat->Prop}{s:PS}(h:Inv k sz D s){v:Nat}(hv:D v):jY (plc s.1 v)=false:=by
 have h1:=h.sm hz hn
 have h2:=h.pl v hv
 have h3:=h.pe v hv
 have h4:=hz v
 rw[<-h2.2]at h4
 simp only[jY,Bool.or_eq_false_iff,decide_eq_false_iff_not]
 omega
theorem Inv.put{k:aA}{sz:List Int}(hz:∀v,0<=cC sz v/\cC sz v<=4096)(hn:k.values.es.length<=20){D:Nat->Prop}{s:PS}(h:Inv k sz D s){v:Nat}{o:Int}(hd:¬D v)(hv:v<k.values.es.length)
  (h0:0<=o) (h1:o<=s.2) (hi:v<k.inputs.toNat->0<cC sz v->o=SS sz v)
  (H:∀(u:Nat)(a b:Sp),D u->u≠v->(aF k)[u]?=some a->(aF k)[v]?=some b->gP (plc s.1 u) (o,cC sz v)=true->(a.1<=b.1->b.1<=a.2->Exc k u a b/\(plc s.1 u).1=o)/\¬(b.1<=a.1/\a.1<=b.2)) :
  Inv k sz (fun w=>D w\/w=v) (qT sz s v o):=by
 have hsm:=h.sm hz hn
 have hzv:=hz v
 have hvl:v<s.1.length:=by rw[h.len];exact hv
 have e0:en (o,cC sz v)=o+cC sz v:=WB (by omega) (by omega) hzv.1 (by omega)
 have eq:plc (qT sz s v o).1 v=(o,cC sz v):=GW hvl
 have ne:∀w,D w->plc (qT sz s v o).1 w=plc s.1 w:=fun w hw=>yT (fun e=>hd (e ▸ hw))
 have hp2:(qT sz s v o).2=mxI s.2 (o+cC sz v):=by rw[<-e0];rfl
 have hmx:=VY s.2 (o+cC sz v)
 have hnn:=h.nn
 have hup:=h.up
 refine⟨by rw[yP];exact h.len,?_,?_,?_,?_,by omega,?_,?_⟩
 ·rintro w (hw|rfl)
  ·rw[ne w hw];exact h.pl w hw
  ·rw[eq];exact⟨h0,rfl⟩
 ·intro w hw
  rw[yT (fun e=>hw (.inr e.symm))]
  exact h.no w (fun x=>hw (.inl x))
 ·rintro x w a b (hx|rfl) (hw|rfl) hne ha hb h2 h3 hm
  ·rw[ne x hx,ne w hw]at hm ⊢
   exact h.dj x w a b hx hw hne ha hb h2 h3 hm
  ·rw[ne x hx,eq]at hm ⊢
   exact(H x a b hx hne ha hb hm).1 h2 h3
  ·rw[ne w hw,eq,s6]at hm
   exact absurd ⟨h2,h3⟩ (H w b a hw (fun e=>hne e.symm) hb ha hm).2
  ·exact absurd rfl hne
 ·rintro w (hw|rfl)
  ·rw[ne w hw,hp2]
   have:=h.pe w hw
   omega
  ·rw[eq,hp2]
   exact hmx.2
 ·have hs2:S2 (qT sz s v o).1=S2 s.1+cC sz v:=PT s.1 v (o,cC sz v) hvl (by rw[h.no v hd])
  rw[hs2,hp2]
  rcases VV s.2 (o+cC sz v) with e|e<;>rw[e]<;>omega
 ·rintro w hwi (hw|rfl) hws
  ·rw[ne w hw];exact h.inp w hwi hw hws
  ·rw[eq];exact hi hwi hws
theorem JF{k:aA}{sz:List Int}(hz:∀v,0<=cC sz v/\cC sz v<=4096)(hn:k.values.es.length<=20):∀n,n<=k.inputs.toNat->n<=k.values.es.length->Inv k sz (fun v=>v<n) (nD k sz n)
 |0,_,_=>by
  have hp:∀v,plc (nD k sz 0).1 v=(-1,0):=by
   intro v
   simp only[nD,HH,List.range_zero,List.foldl_nil,plc,ini,List.getD_eq_getElem?_getD,List.getElem?_replicate]
   split<;>rfl
  have hs:∀n,S2 (List.replicate n ((-1,0):Sp))=0:=by
   intro n
   induction n with
   |zero=>rfl
   |succ n ih=>rw[List.replicate_succ,S2,ih];rfl
  refine⟨rF k sz 0,fun v h=>absurd h (Nat.not_lt_zero v),fun v _=>hp v,fun v _ _ _ h=>absurd h (Nat.not_lt_zero v),fun v h=>absurd h (Nat.not_lt_zero v),Int.le_refl 0,?_,fun v _ h=>absurd h (Nat.not_lt_zero v)⟩
  have:S2 (nD k sz 0).1=0:=hs _
  rw[this]
  exact Int.le_refl 0
 |n+1,h1,h2=>by
  have ih:=JF (k:=k) hz hn n (by omega) (by omega)
  have hmem:∀p∈(nD k sz n).1.take n,∃u,u<n/\plc (nD k sz n).1 u=p:=by
   intro p hp
   obtain⟨u,hu⟩:=List.mem_iff_getElem?.1 hp
   rw[List.getElem?_take]at hu
   split at hu
   ·rename_i hlt
    exact⟨u,hlt,by rw[plc,List.getD_eq_getElem?_getD,hu];rfl⟩
   ·simp at hu
  have hin:∀u,u<n->plc (nD k sz n).1 u∈(nD k sz n).1.take n:=by
   intro u hu
   have hl:u<(nD k sz n).1.length:=by rw[rF];omega
   refine List.mem_iff_getElem?.2 ⟨u,?_⟩
   rw[List.getElem?_take,if_pos hu,plc,List.getD_eq_getElem?_getD,List.getElem?_eq_getElem hl]
   rfl
  have hzn:=hz n
  obtain⟨hmin,hfree⟩:=fit_ok (l:=(nD k sz n).1.take n) (s:=cC sz n) (fun p hp=>by
   obtain⟨u,hu,rfl⟩:=hmem p hp
   exact ih.bad hz hn hu) hzn.1 (by omega)
  have hle:=fit_le hmin ih.nn (fun p hp=>by
   obtain⟨u,hu,rfl⟩:=hmem p hp
   exact ih.pe u hu)
  rw[vP]
  refine Inv.iff (Inv.put hz hn ih (v:=n) (o:=fitS ((nD k sz n).1.take n) (cC sz n)) (by omega) (by omega) hmin.1 hle ?_ ?_) (fun v=>⟨fun h=>by rcases h with h|rfl<;>omega,fun h=>by omega⟩)
  ·intro _ hs
   have hpos:∀u,u<n->0<cC sz u->plc (nD k sz n).1 u=(SS sz u,cC sz u):=fun u hu hus=>Prod.ext (ih.inp u (by omega) hu hus) (ih.pl u hu).2
   refine fit_uniq hmin hfree ⟨DQ (sz:=sz) hz (Nat.zero_le n),fun b hb0 hb=>?_⟩ (fun p hp=>?_)
   ·obtain⟨u,hu,h3,h4⟩:=F9 b hb0 n hb
    refine⟨_,hin u hu,?_⟩
    rw[hpos u hu (by omega)]
    exact gO.2 ⟨by simp only;omega,hs,by simp only;omega,by simp only;omega⟩
   ·obtain⟨u,hu,rfl⟩:=hmem p hp
    cases hm:gP (plc (nD k sz n).1 u) (SS sz n,cC sz n)
    ·rfl
    ·obtain⟨m1,m2,m3,m4⟩:=gO.1 hm
     have hus:0<cC sz u:=by rw[<- (ih.pl u hu).2];exact m1
     rw[hpos u hu hus]at m4
     have:=DQ (sz:=sz) hz (show u+1<=n by omega)
     rw[SS]at this
     simp only at m4
     omega
  ·intro u a b hu _ _ _ hm
   rw[hfree _ (hin u hu)]at hm
   cases hm
end Go.Tev
end
section
namespace Go.Tev
def Bef(k:aA)(i:Nat)(v:Nat):Prop:=∃a,(aF k)[v]?=some a/\a.1 ≠ -2/\a.1<(i:Int)
theorem JI{sp:List Sp}{n:Nat}{f:Int}(h:frm sp n=some f):∃a,sp[n]?=some a/\a.1=f:=by
 cases hs:sp[n]? with
 |none=>rw[frm,hs]at h;simp at h
 |some a=>rw[frm,hs]at h;exact⟨a,rfl,by simpa using h⟩
theorem uJ{sp:List Sp}{n:Nat}{a:Sp}(h:sp[n]?=some a):frm sp n=some a.1:=by rw[frm,h];rfl
theorem PD{k:aA}(v:Nat):v<k.inputs.toNat↔Bef k 0 v:=by
 constructor
 ·intro h
  obtain⟨a,h1,h2⟩:=JI (FB h)
  exact⟨a,h1,by omega,by omega⟩
 ·rintro⟨a,h1,h2,h3⟩
  rcases mL (uJ h1) with h|⟨_,h⟩|⟨j,q,_,_,h⟩
  ·exact absurd h h2
  ·exact h
  ·omega
theorem GZ{k:aA}(ok:fW k):0<=k.inputs:=by
 have:=ok.out
 simp only[aZ,Bool.and_eq_true,decide_eq_true_eq]at this
 obtain⟨_,⟨⟨⟨⟨⟨⟨_,_⟩,hi0⟩,_⟩,hiV⟩,_⟩,_⟩,_⟩:=this
 exact hi0
theorem DG{k:aA}(ok:fW k)(ds:List Val){d r:List aD}{q:aD}(hes:k.list.es=d++q::r)(hc:0<=gF k d.length) :
  ∃(c:Nat)(s u:Sp),gF k d.length=c/\c≠q.value.toNat/\(aF k)[c]?=some s/\(aF k)[q.value.toNat]?=some u/\u.1=(d.length:Int)/\s.1 ≠ -2/\s.2=(d.length:Int)/\cC (cN k ds) c=cC (cN k ds) q.value.toNat:=by
 obtain⟨c0,e0,_,_,hsz⟩:=w5 ok ds hes hc
 rcases pT (fun v=>kR k (d.length:Int) (v:Int)) k.values.es.length 0 with h|⟨c,h1,h2,_,h3⟩
 ·rw[gF,h]at hc;exact absurd hc (by decide)
 have e1:gF k d.length=(c:Int):=h1
 obtain rfl:c0=c:=by omega
 have hget:k.list.es[d.length]?=some q:=by rw[hes];simp
 have hq0:=(eA (ok.ker d q r hes)).1
 simp only[kR,Int.toNat_natCast,hget]at h2
 cases ha:k.values.es[c0]? with
 |none=>rw[ha]at h2;cases h2
 |some a=>
 rw[ha]at h2
 simp only at h2
 cases hb:k.values.es[q.value.toNat]? with
 |none=>rw[hb]at h2;cases h2
 |some b=>
 rw[hb]at h2
 simp only[KR,Bool.and_eq_true,decide_eq_true_eq,Bool.not_eq_true',decide_eq_false_iff_not]at h2
 obtain⟨_,⟨m1,m2,m3,m4⟩,m5,_⟩:=h2
 obtain⟨s,s1,s2⟩:=pC m3
 obtain⟨u,u1,u2⟩:=pC (k:=k) (v:=q.value) (by omega)
 rw[s2]at m3 m4
 rw[u2]at m2
 rw[Int.toNat_natCast]at s1
 refine⟨c0,s,u,e1,?_,s1,u1,m2,m3,m4,hsz⟩
 intro he
 apply m1
 have:=GZ ok
 omega
theorem QS{k:aA}(ok:fW k)(ds:List Val)(hz:∀v,0<=cC (cN k ds) v/\cC (cN k ds) v<=4096)(hn:k.values.es.length<=20)(hi:k.inputs.toNat<=k.values.es.length)
  {d r:List aD} {q:aD} (hes:k.list.es=d++q::r) {s:PS} (h:Inv k (cN k ds) (Bef k d.length) s):Inv k (cN k ds) (Bef k (d.length+1)) (AM k (cN k ds) s d.length q):=by
 have hget:k.list.es[d.length]?=some q:=by rw[hes];simp
 obtain⟨hq0,hq1,_⟩:=eA (ok.ker d q r hes)
 have hin0:=GZ ok
 have hqv:q.value.toNat<k.values.es.length:=by omega
 obtain⟨f,hf,hf2,hfi⟩:=HL hi hget hqv
 obtain⟨b,hb,hbf⟩:=JI hf
 have uniq:∀(w:Nat)(a:Sp),(aF k)[w]?=some a->a.1=(d.length:Int)->w=q.value.toNat:=by
  intro w a ha he
  rcases mL (uJ ha) with h|⟨h,_⟩|⟨j,x,h1,h2,h3⟩
  ·omega
  ·omega
  ·obtain rfl:j=d.length:=by omega
   rw[hget]at h1
   cases h1
   exact h2.symm
 by_cases hlt:f<(d.length:Int)
 ·have hD:Bef k d.length q.value.toNat:=⟨b,hb,by omega,by omega⟩
  have hst:AM k (cN k ds) s d.length q=s:=by rw[AM,if_pos (h.pl _ hD).1]
  rw[hst]
  refine h.iff fun v=>⟨fun ⟨a,h1,h2,h3⟩=>⟨a,h1,h2,by omega⟩,fun ⟨a,h1,h2,h3⟩=>⟨a,h1,h2,?_⟩⟩
  by_cases he:a.1=(d.length:Int)
  ·have:=uniq v a h1 he
   subst this
   rw[hb]at h1
   cases h1
   omega
  ·omega
 have hbd:b.1=(d.length:Int):=by omega
 have hnd:¬Bef k d.length q.value.toNat:=by
  rintro⟨a,h1,_,h3⟩
  rw[hb]at h1
  cases h1
  omega
 have hiff:∀v,(Bef k d.length v\/v=q.value.toNat)↔Bef k (d.length+1) v:=by
  intro v
  constructor
  ·rintro(⟨a,h1,h2,h3⟩|rfl)
   ·exact⟨a,h1,h2,by omega⟩
   ·exact⟨b,hb,by omega,by omega⟩
  ·rintro⟨a,h1,h2,h3⟩
   by_cases he:a.1=(d.length:Int)
   ·exact .inr (uniq v a h1 he)
   ·exact .inl ⟨a,h1,h2,by omega⟩
 have hnp:¬ 0<=(plc s.1 q.value.toNat).1:=by rw[h.no _ hnd];decide
 have hvi:q.value.toNat<k.inputs.toNat->False:=fun hv=>by
  have:=FB hv
  rw[hf]at this
  simp at this
  omega
 rw[AM,if_neg hnp]
 split
 ·rename_i hc
  obtain⟨c,sc,u,e1,hcv,hsc,hu,hu1,hs1,hs2,hsz⟩:=DG ok ds hes hc
  have hcl:sc.1<(d.length:Int):=by
   have:=yB k sc (List.mem_of_getElem? hsc)
   by_cases he:sc.1=(d.length:Int)
   ·exact absurd (uniq c sc hsc he) hcv
   ·omega
  have hDc:Bef k d.length c:=⟨sc,hsc,hs1,hcl⟩
  have hpl:=h.pl c hDc
  have hpe:=h.pe c hDc
  have hzc:=hz c
  have hpc:plc s.1 c=((plc s.1 c).1,cC (cN k ds) q.value.toNat):=Prod.ext rfl (by rw[hpl.2,hsz])
  rw[e1,Int.toNat_natCast]
  refine Inv.iff (Inv.put hz hn h hnd hqv hpl.1 (by omega) (fun hv=>(hvi hv).elim) ?_) hiff
  intro w a b' hw hwv ha hb' hm
  rw[hb]at hb'
  cases hb'
  rw[<-hpc]at hm
  obtain⟨a',ha',ha2,ha3⟩:=hw
  rw[ha]at ha'
  cases ha'
  refine⟨fun h1 h2=>?_,fun ⟨h1,_⟩=>by omega⟩
  by_cases hwc:w=c
  ·subst hwc
   rw[hsc]at ha
   cases ha
   exact⟨⟨d.length,hbd,hs2,e1⟩,rfl⟩
  ·exfalso
   have hDw:Bef k d.length w:=⟨a,ha,ha2,ha3⟩
   by_cases hac:a.1<=sc.1
   ·obtain⟨⟨j,x1,x2,_⟩,_⟩:=h.dj w c a sc hDw hDc hwc ha hsc hac (by omega) hm
    omega
   ·rw[s6]at hm
    obtain⟨⟨j,x1,x2,_⟩,_⟩:=h.dj c w sc a hDc hDw (fun e=>hwc e.symm) hsc ha (by omega) (by omega) hm
    omega
 ·have hmem:∀p∈lY s.1 (eE d.length (aF k)),∃w,Bef k d.length w/\plc s.1 w=p:=by
   intro p hp
   simp only[lY,List.mem_filter,List.mem_map,decide_eq_true_eq]at hp
   obtain⟨⟨w,_,rfl⟩,h0⟩:=hp
   exact⟨w.toNat,h.dec h0,rfl⟩
  have hzv:=hz q.value.toNat
  obtain⟨hmin,hfree⟩:=fit_ok (l:=lY s.1 (eE d.length (aF k))) (s:=cC (cN k ds) q.value.toNat) (fun p hp=>by
   obtain⟨w,hw,rfl⟩:=hmem p hp
   exact h.bad hz hn hw) hzv.1 (by omega)
  have hle:=fit_le hmin h.nn (fun p hp=>by
   obtain⟨w,hw,rfl⟩:=hmem p hp
   exact h.pe w hw)
  refine Inv.iff (Inv.put hz hn h hnd hqv hmin.1 hle (fun hv=>(hvi hv).elim) ?_) hiff
  intro w a b' hw hwv ha hb' hm
  rw[hb]at hb'
  cases hb'
  have hDw:=hw
  obtain⟨a',ha',ha2,ha3⟩:=hw
  rw[ha]at ha'
  cases ha'
  refine⟨fun h1 h2=>?_,fun ⟨h1,_⟩=>by omega⟩
  exfalso
  have hin:plc s.1 w∈lY s.1 (eE d.length (aF k)):=by
   simp only[lY,List.mem_filter,List.mem_map,decide_eq_true_eq]
   refine⟨⟨(w:Int),?_,by rw[Int.toNat_natCast]⟩,(h.pl w hDw).1⟩
   refine iW.2 ⟨a,by omega,by rw[Int.toNat_natCast];exact ha,?_⟩
   simp only[gZ,Bool.and_eq_true,Bool.not_eq_true',decide_eq_false_iff_not,decide_eq_true_eq]
   omega
  rw[hfree _ hin]at hm
  cases hm
theorem E2{k:aA}(ok:fW k)(ds:List Val)(hz:∀v,0<=cC (cN k ds) v/\cC (cN k ds) v<=4096)(hn:k.values.es.length<=20)(hi:k.inputs.toNat<=k.values.es.length) :
  ∀n,n<=k.list.es.length->Inv k (cN k ds) (Bef k n) (fQ k (cN k ds) (k.list.es.take n))
 |0,_=>by
  rw[List.take_zero]
  exact Inv.iff (JF hz hn k.inputs.toNat (Nat.le_refl _) hi) PD
 |n+1,h=>by
  have ih:=E2 ok ds hz hn hi n (by omega)
  have hlt:n<k.list.es.length:=by omega
  have e:k.list.es.take (n+1)=k.list.es.take n++[k.list.es[n]]:=by rw[List.take_succ_eq_append_getElem hlt]
  have hes:k.list.es=k.list.es.take n++k.list.es[n]::k.list.es.drop (n+1):=by rw[<-List.drop_eq_getElem_cons hlt,List.take_append_drop]
  have hlen:(k.list.es.take n).length=n:=by simp;omega
  rw[e,yU]
  have:=QS ok ds hz hn hi hes (s:=fQ k (cN k ds) (k.list.es.take n)) (by rw[hlen];exact ih)
  rw[hlen]at this ⊢
  exact this
theorem QT{k:aA}(ok:fW k)(ds:List Val)(hz:∀v,0<=cC (cN k ds) v/\cC (cN k ds) v<=4096)(hn:k.values.es.length<=20)(hi:k.inputs.toNat<=k.values.es.length) :
  Inv k (cN k ds) (Bef k k.list.es.length) (fQ k (cN k ds) k.list.es):=by
 have:=E2 ok ds hz hn hi k.list.es.length (Nat.le_refl _)
 rwa [List.take_length]at this
theorem z7{k:aA}{at_:Int}{v:Nat}{a:Sp}(h:(aF k)[v]?=some a)(hl:a.1 ≠ -2):Bef k k.list.es.length v:=by
 refine⟨a,h,hl,?_⟩
 rcases mL (uJ h) with h|⟨h,_⟩|⟨j,x,h1,_,h3⟩
 ·exact absurd h hl
 ·omega
 ·have:=(List.getElem?_eq_some_iff.1 h1).1
  omega
end Go.Tev
end
