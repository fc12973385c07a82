import Derived.Test.YtmcadllokkmeiaaGreatDoorBBI
import Derived.Test.YtmcadllokkmeiaaGreatDoorBBD
import Derived.Test.YtmcadllokkmeiaaGreatDoorBBE
import Derived.Test.YtmcadllokkmeiaaGreatDoorBBH
import Derived.Test.YtmcadllokkmeiaaGreatDoorBAH
import Derived.Test.YtmcadllokkmeiaaGreatDoorBAM
import Derived.Test.YtmcadllokkmeiaaGreatDoorBAU
set_option linter.all false
namespace Go.Tev
section
theorem aFd{h:Hp}{k e esz:Nat}{ag:Bool}{es cs:List AV}(he:∀x∈es,El esz ag x)(hg:h.get k=some (e,.blk cs esz ag false false))(hu:cK esz ag es=some cs)(d n:Nat)(hn:n=es.length):Tev.snap (d+2) h (.rf k e 0 n n)=some (.sl false es false,[k]):=by
 subst hn;obtain⟨cs',h1,h2,h3,h4⟩:=eD he;rw[hu]at h1;cases h1;have h5:=h4 [];rw[List.append_nil]at h5;have ht:treeL es=true:=by
  clear h2 h4 h5 hu hg
  induction es with
  |nil=>rfl
  |cons x r ih=>simp only[treeL,aF];exact⟨(he x (by simp)).tree,ih (λy hy=>he y (dY _ hy))⟩
 have h6:eN (Tev.snap (d+1) h) es=some (es,[]):=fI d h ht;rw[fE];simp[hg,h5,h6,AV.tree]
theorem El.spl(l:List Sp):∀x∈l.map bO,El 2 true x:=by intro x hx;obtain⟨c,_,rfl⟩:=List.mem_map.1 hx;exact⟨rfl,rfl,rfl⟩
section
variable{pg:Pg}
end
end
section
section
variable{pg:Pg}
theorem bQ.ofH{f:Nat}{vs:List AV}{P:AV->Prop}(hr:jK pg f vs 0 [] (λr h'=>∃r',Tev.conv h' r=some r'/\P r')):bQ pg f vs P:=by obtain⟨r,h',⟨n,e⟩,r',hc,hp⟩:=hr;exact⟨r',⟨n,by simp only[dS,e,hc]⟩,hp⟩
end
end
section
def chg(h h':Hp):Hp:=h'.filter λx => !wL (h.get x.k) (some (x.e,x.o))
theorem JS:∀l:List (AV×AV),QR l l=true
 |[]=>rfl
 |x::r=>by simp[QR,wM,JS r]
theorem GS(o:Option (Nat×Ob)):wL o o=true:=by
 cases o with
 |none=>rfl
 |some p=>obtain⟨e,o⟩:=p;cases o<;>simp[wL,aCS,oG,JS]
theorem ZE{p:Ent->Bool}:∀{h:Hp}{k e:Nat}{o:Ob},h.all p=true->p ⟨k,e,o⟩=true->(h.put k e o).all p=true
 |[],_,_,_,_,hp=>by simp[Hp.put,hp]
 |x::r,k,e,o,h,hp=>by simp only[fV,aF]at h;rw[Hp.put];split;simp[h.1,h.2,hp];split;simp[h.2,hp];simp only[fV,aF];exact⟨h.1,ZE h.2 hp⟩
def pV:Hp->Bool
 |[]=>true
 |x::r=>(r.all λy=>decide (x.k<y.k))&&pV r
theorem kU:∀{h:Hp}{k e:Nat}{o:Ob},pV h=true->pV (h.put k e o)=true
 |[],_,_,_,_=>by simp[Hp.put,pV]
 |x::r,k,e,o,h=>by simp only[pV,aF]at h;rw[Hp.put];split;rename_i hk;simp only[pV,fV,aF,aR,h.1,h.2,and_true,hk,true_and];rw[eT];intro y hy;have:=eT.1 h.1 y hy;simp only[aR]at this ⊢;omega;rename_i hk;split;rename_i he;subst he;simp only[pV,h.2,fF];exact h.1;rename_i he;simp only[pV,aF];exact⟨ZE h.1 (by simp;omega),kU h.2⟩
theorem rS:∀{pa:List Ent}{h:Hp},pV h=true->pV (dZ h pa)=true
 |[],_,h=>h
 |x::r,_,h=>rS (pa:=r) (kU h)
theorem HK:∀{h:Hp},pV h=true->kG h=true
 |[],_=>rfl
 |x::r,h=>by simp only[pV,aF]at h;simp only[kG,aF];refine⟨?_,HK h.2⟩;rw[eT];intro y hy;have:=eT.1 h.1 y hy;simp only[aR]at this;simp;omega
theorem tW{p:Ent->Bool}:∀{h:Hp},kG h=true->kG (h.filter p)=true
 |[],_=>rfl
 |x::r,h=>by simp only[kG,aF]at h;rw[List.filter_cons];split;simp only[kG,aF];refine⟨?_,tW h.2⟩;rw[eT];intro y hy;exact eT.1 h.1 y (List.mem_filter.1 hy).1;exact tW h.2
theorem QF{h:Hp}{k:Nat}(hn:∀x∈h,x.k≠k):h.get k=none:=by
 cases hq:h.get k with
 |none=>rfl
 |some p=>obtain⟨x,hx,hk⟩:=xK hq;exact absurd hk (hn x hx)
theorem F8{p:Ent->Bool}:∀{h:Hp}(k:Nat),kG h=true->Hp.get (h.filter p) k=match h.get k with|some (e,o)=>if p ⟨k,e,o⟩ then some (e,o) else none|none=>none
 |[],_,_=>rfl
 |x::r,k,hn=>by
  simp only[kG,aF]at hn;have ih:=F8 (p:=p) (h:=r) k hn.2;rw[List.filter_cons];by_cases hk:x.k=k;subst hk
  have hr:∀y∈r,y.k≠x.k:=λy hy=>by have:=eT.1 hn.1 y hy;simpa using this
  have hx:p ⟨x.k,x.e,x.o⟩=p x:=rfl;cases hp:p x;simp only[Hp.get,aN,hx,hp];exact QF (λy hy=>hr y (List.mem_filter.1 hy).1);simp[Hp.get,hx,hp];cases hp:p x;simp only[Hp.get,hk,aL];exact ih;simp only[aN,Hp.get,hk,aL];exact ih
theorem Y6{h h':Hp}(hn:kG h'=true)(hk:∀q,h.get q≠none->h'.get q≠none)(q:Nat):(dZ h (chg h h')).get q=h'.get q:=by
 unfold chg;rw[jS q (tW hn),F8 q hn];cases hq:h'.get q with
 |none=>
  simp only;cases hh:h.get q with
  |none=>rfl
  |some p=>exact absurd hq (hk q (by rw[hh];simp))
 |some p=>obtain⟨e,o⟩:=p;simp only;cases hc:wL (h.get q) (some (e,o));simp;simp[DF hc]
theorem aFQ{h h':Hp}(hn:kG h'=true){q:Nat}(he:h'.get q=h.get q):q ∉ (chg h h').map (·.k):=by
 intro hm;obtain⟨x,hx,rfl⟩:=List.mem_map.1 hm;have hx':=List.mem_filter.1 hx;have hg:h'.get x.k=some (x.e,x.o):=by
  obtain⟨hx1,_⟩:=hx';clear hx hm he
  induction h' with
  |nil=>cases hx1
  |cons y r ih=>
   simp only[kG,aF]at hn;rcases dA.1 hx1 with rfl|hx1;simp[Hp.get];have:¬x.k=y.k:=by have:=eT.1 hn.1 x hx1;simpa using this
   have h2:¬y.k=x.k:=λe=>this e.symm;rw[Hp.get,if_neg h2];exact ih hn.2 hx1
 rw[<-he,hg,GS]at hx';simp at hx'
section
variable{pg:Pg}{kb:Nat}
theorem aBf{f s:Nat}{h:Hp}{cs args:List AV}{P:AV->Hp->Prop}{Q:AV->Eff->Prop}{t:Tok Q}{B:Nat}(hB:jU kb s (args++cs)=B)(hr:jK pg f (args++cs) B h (λr h'=>P r h'/\pV h'=true/\∀q,h.get q≠none->h'.get q≠none))
  (hq:∀r h' pa,P r h'->(∀q,(dZ h pa).get q=h'.get q)->(∀q,h'.get q=h.get q->q ∉ pa.map (·.k))->Q r (.all pa)):XO pg kb .callvr s h (.fn f cs::args) Q t:=by
 obtain⟨r,h',⟨n,e⟩,hp,hn,hk⟩:=hr;subst hB;have hn':=HK hn;refine⟨n,r,.all (chg h h'),?_,hq r h' _ hp (Y6 hn' hk) (λq he=>aFQ hn' he)⟩;simp only[opR,oH,e]
 have hall:((h++h').all λx=>wL ((dZ h (chg h h')).get x.k) (h'.get x.k))=true:=by rw[eT];intro x _;rw[Y6 hn' hk];exact GS _
 unfold chg at hall ⊢;rw[if_pos hall]
end
end
section
def eZ(k:aA)(P:List Sp)(at_:Int):List Sp:=(cC at_ (aD k)).map λw=>plc P w.toNat
def kM(l:List Sp):Int:=l.foldl (λn q=>mxI n (q.1+q.2)) 0
def kA(k:aA)(P:List Sp)(F:List Sp->Int):List Int:=(List.range (k.aSf.es.length+2)).map fun(j:Nat)=>F (eZ k P ((j:Int)-1))
def rH(k:aA)(ds:List Val)(p:dK)(F:List Sp->Int)(r:AV):Prop:=
 if oZ k ds p=0 then ∃nl cl,r = .tup [.sl nl ((kA k p.P F).map aH) cl,.int .i64 0] else r = .tup [.sl true [] true,.int .i64 (oZ k ds p)]
def P6(v:AV)(h:Hp)(r:AV)(h':Hp):Prop:=(r=v/\∀q,q<2228224->q≠29->h'.get q=h.get q)/\pV h'=true/\∀q,h.get q≠none->h'.get q≠none
theorem wF{h hp:Hp}(k e:Nat)(o:Ob)(hk:∀q,h.get q≠none->hp.get q≠none):∀q,h.get q≠none->(hp.put k e o).get q≠none:=λq hq=>by rw[aI];split;simp;exact hk q hq
def rI(pk:Int)(l:List Sp):Prop:=∀q∈l,0<=q.1/\0<=q.2/\q.1+q.2<=pk
theorem BM{h:Hp}{k0:Nat}{v:AV}{es:List Sp}(o:Own h k0 2 true v (es.map bO)):(es=[]/\∃nl cl,v = .sl nl [] cl)\/∃e,v = .rf k0 e 0 es.length es.length/\h.get k0=some (e,.blk (aV es) 2 true false false):=by
 rcases o with ⟨hn,nl,cl,rfl,_⟩|⟨e,cs,rfl,hg,hu⟩
 exact .inl ⟨by simpa using hn,nl,cl,rfl⟩;rw[nS]at hu;cases hu;exact .inr ⟨e,by rw[aM],hg⟩
section
variable{pg:Pg}
set_option maxRecDepth 100000 in
theorem c681(hf:pg.fs 681=some Q7)(pk:Int)(hpk:pk<=1000000)(h:Hp)(ha:pV h=true)(v:AV)(es:List Sp)(ho:Own h 29 2 true v (es.map bO))(hb:es.length<=big)(hg:rI pk es) :
  jK pg 681 [v] 2228224 h (P6 (.int .i64 (kM es)) h):=by
 unfold P6;refine jK.ofX hf ?_;unfold Q7;rcases BM ho with ⟨rfl,nl,cl,rfl⟩|⟨e,rfl,g⟩
 refine Wk ?_;refine aJ ([]:List Sp) (λd r env hp=>env=AO (.int .i64 0) (.sl nl [] cl) (.int .i64 0) (.int .i64 d.length)/\(∀q,q<2228224->q≠29->hp.get q=h.get q)/\pV hp=true/\∀q,h.get q≠none->hp.get q≠none) ?_ ?_ ?_;exact⟨rfl,λ_ _ _=>rfl,ha,λ_ h=>h⟩;rintro env hp ⟨rfl,hq,ha2,hk2⟩;simp only[D9,AO,go_sem,seval];exact⟨⟨rfl,hq⟩,ha2,hk2⟩;intro d x r env hp hes;simp at hes;refine Wk ?_;refine aJ es (λd r env hp=>∃n:Int,env=AO (.int .i64 n) (.rf 29 e 0 es.length es.length) (.int .i64 es.length) (.int .i64 d.length)/\hp.get 29=some (e,.blk (aV es) 2 true false false)/\kM es=r.foldl (λn q=>mxI n (q.1+q.2)) n/\(∀q,q<2228224->q≠29->hp.get q=h.get q)/\pV hp=true/\∀q,h.get q≠none->hp.get q≠none) ?_ ?_ ?_;exact⟨0,rfl,g,rfl,λ_ _ _=>rfl,ha,λ_ h=>h⟩;rintro env hp ⟨n,rfl,g,hI,hq,ha2,hk2⟩;simp only[D9,AO,bG,go_sem,seval];exact⟨⟨hI.symm,hq⟩,ha2,hk2⟩;rintro d x r env hp hes ⟨n,rfl,g,hI,hq,ha2,hk2⟩;have hk3:=wF 2228225 (hp.next 2228225) (.blk [.int .i64 x.1,.int .i64 x.2] 2 true true false) (wF 2228225 (hp.next 2228225) (.blk [.int .i64 0,.int .i64 0] 2 true true false) hk2);simp only[aI]at hk3;obtain⟨hget,f1,f2,ew⟩:=dJ hes hb;obtain⟨x1,x2,x3⟩:=hg x (by rw[hes];simp);have w1:wr .i64 (x.1+x.2)=x.1+x.2:=aU (by omega) (by omega);obtain⟨a1,a2⟩:=D2 es d.length x hget;simp only[D9,AO,f1,f2,g,a1,a2,w1,mx2,ew,go_sem,seval];exact⟨mxI n (x.1+x.2),rfl,hI,λq h1 h2=>by rw[if_neg (by omega),if_neg (by omega)];exact hq q h1 h2,kU (kU ha2),hk3⟩
theorem yM{pk:Int}:∀(l:List Sp)(f e:Int),rI pk l->0<=f->f<=e->e<=pk->0<=(qG f e l).1/\(qG f e l).1<=(qG f e l).2/\(qG f e l).2<=pk
 |[],f,e,_,h1,h2,h3=>⟨h1,h2,h3⟩
 |q::r,f,e,hg,h1,h2,h3=>by obtain⟨q1,q2,q3⟩:=hg q (by simp);have hr:rI pk r:=λx hx=>hg x (by simp[hx]);rw[qG];split;exact yM r f e hr h1 h2 h3;refine yM r _ _ hr ?_ ?_ ?_<;>simp only[mxI]<;>repeat' split<;>omega
set_option maxRecDepth 100000 in
set_option maxHeartbeats 4000000 in
theorem c682(O:aKO pg)(hf:pg.fs 682=some Q6)(p:dK)(hp0:0<=p.pk)(hpk:p.pk<=1000000)(h:Hp)(ha:pV h=true)(v:AV)(es:List Sp)(ho:Own h 29 2 true v (es.map bO))(hb:es.length<=big)(hg:rI p.pk es) :
  jK pg 682 [v,.fp p.av] 2228224 h (P6 (.int .i64 (fM es p.pk.toNat)) h):=by
 unfold P6;rw[dK.avc];refine jK.ofX hf ?_;unfold Q6;have w0:wr .i64 (0+p.pk)=p.pk:=by rw[Int.zero_add];exact aU (by omega) (by omega)
 have w00:wr .i64 (p.pk-0)=p.pk:=by rw[Int.sub_zero];exact aU (by omega) (by omega)
 rcases BM ho with ⟨rfl,nl,cl,rfl⟩|⟨e,rfl,g⟩
 refine Wk ?_;refine qV (.inl rfl) rfl (O.sortN _ _ nl cl) (Wk ?_);refine aJ ([]:List Sp) (λd r env hp=>env=xR (.fp (.agg [.sl p.n1 (p.P.map bO) p.c1,.sl p.n2 (p.C.map aH) p.c2,.int .i64 p.pk])) (.int .i64 0) (.int .i64 0) (.sl nl [] cl) (.int .i64 0) (.int .i64 d.length)/\hp=h) ?_ ?_ ?_;exact⟨rfl,rfl⟩;rintro env hp ⟨rfl,rfl⟩;simp only[AN,xR,w0,w00,go_sem,seval];have:=zO (L:=[]) (pk:=p.pk) (by simp) [] 0 0 (by simp) (by simp) .nil (Int.le_refl _) hp0 rfl;simp only[qG]at this;refine⟨⟨?_,λ_ _ _=>trivial⟩,ha,λ_ h=>h⟩;rw[<-this];simp;intro d x r env hp hes;simp at hes
 obtain⟨l',hperm,hsort,hr⟩:=O.sort (jU 2228224 1 [.rf 29 e 0 es.length es.length,.fn 683 []]) h 29 e es g hb (λq hq=>by
  obtain⟨q1,q2,q3⟩:=hg q hq;simp only[lU,Bool.or_eq_false_iff,eJ];omega)
 have hlen:l'.length=es.length:=hperm.length_eq;have hb':l'.length<=big:=by omega
 have hg':rI p.pk l':=λq hq=>hg q (hperm.mem_iff.1 hq);have hun:fM es p.pk.toNat=fM l' p.pk.toNat:=H9 (λq=>hperm.mem_iff.symm) _;have hsc:=zO (L:=l') (pk:=p.pk) hg' l' 0 0 (λ_ hq=>hq) (λ_ hq => .inl hq) hsort (Int.le_refl _) hp0 rfl;have hbd:=yM l' 0 0 hg' (Int.le_refl _) (Int.le_refl _) hp0;rw[hun,<-hsc];clear hun hsc;refine Wk ?_;refine qV (.inl rfl) rfl hr ?_;rw[<-hlen];clear hr;refine Wk ?_
 refine aJ l' (λd r env hp=>∃f e2:Int,env=xR (.fp (.agg [.sl p.n1 (p.P.map bO) p.c1,.sl p.n2 (p.C.map aH) p.c2,.int .i64 p.pk])) (.int .i64 f) (.int .i64 e2) (.rf 29 e 0 l'.length l'.length) (.int .i64 l'.length) (.int .i64 d.length) /\
  hp.get 29=some (e,.blk (aV l') 2 true false false)/\qG 0 0 l'=qG f e2 r/\(0<=f/\f<=e2/\e2<=p.pk)/\(∀q,q<2228224->q≠29->hp.get q=h.get q)/\pV hp=true/\∀q,h.get q≠none->hp.get q≠none) ?_ ?_ ?_
 exact⟨0,0,rfl,by simp only[go_sem,seval],rfl,⟨Int.le_refl _,Int.le_refl _,hp0⟩,λq h1 h2=>by rw[aI,if_neg (Ne.symm h2)],kU ha,wF _ _ _ (λ_ h=>h)⟩;rintro env hp ⟨f,e2,rfl,g2,hI,⟨i1,i2,i3⟩,hq,ha2,hk2⟩;have wa:wr .i64 (f+p.pk)=f+p.pk:=aU (by omega) (by omega);have wb:wr .i64 (f+p.pk-e2)=f+p.pk-e2:=aU (by omega) (by omega);simp only[AN,xR,bG,wa,wb,go_sem,seval];refine⟨⟨?_,hq⟩,ha2,hk2⟩;rw[hI];rfl;rintro d x r env hp hes ⟨f,e2,rfl,g2,hI,⟨i1,i2,i3⟩,hq,ha2,hk2⟩;have hk3:=wF 2228229 (hp.next 2228229) (.blk [.int .i64 x.1,.int .i64 x.2] 2 true true false) (wF 2228229 (hp.next 2228229) (.blk [.int .i64 0,.int .i64 0] 2 true true false) hk2);simp only[aI]at hk3;obtain⟨hget,f1,f2,ew⟩:=dJ hes hb';obtain⟨x1,x2,x3⟩:=hg' x (by rw[hes];simp);obtain⟨a1,a2⟩:=D2 l' d.length x hget;rw[qG]at hI;have hq2:∀q,q<2228224->¬q=29->¬(2228229=q):=λq h1 _=>by omega
 cases b0:decide (x.2=0)
 case true=>rw[if_pos (aO b0)]at hI;simp only[AN,xR,f1,f2,g2,a1,a2,b0,ew,go_sem,seval];exact⟨f,e2,rfl,hI,⟨i1,i2,i3⟩,λq h1 h2=>by rw[if_neg (by omega),if_neg (by omega)];exact hq q h1 h2,kU (kU ha2),hk3⟩
 have b0':=bW b0;rw[if_neg b0']at hI;have w1:wr .i64 (x.1+x.2)=x.1+x.2:=aU (by omega) (by omega);have w2:wr .i64 (x.1-e2)=x.1-e2:=aU (by omega) (by omega);have w3:wr .i64 (f+(if x.1-e2<0 then 0 else x.1-e2))=f+(if x.1-e2<0 then 0 else x.1-e2):=aU (by split<;>omega) (by split<;>omega);simp only[AN,xR,f1,f2,g2,a1,a2,b0,w1,w2,mx2,w3,ew,go_sem,seval];refine⟨f+mxI (x.1-e2) 0,mxI e2 (x.1+x.2),rfl,hI,?_,λq h1 h2=>by rw[if_neg (by omega),if_neg (by omega)];exact hq q h1 h2,kU (kU ha2),hk3⟩;simp only[mxI];refine⟨?_,?_,?_⟩<;>repeat' split<;>omega
theorem aAA{h:Hp}{k0 esz:Nat}{ag:Bool}{v:AV}{es:List AV}(o:Own h k0 esz ag v es)(he:∀x∈es,El esz ag x)(n:Int):∃nl cl,Tev.conv h (.tup [v,.int .i64 n])=some (.tup [.sl nl es cl,.int .i64 n]):=by
 rcases o with ⟨rfl,nl,cl,rfl,_⟩|⟨e,cs,rfl,hg,hu⟩
 exact⟨nl,cl,rfl⟩;have hsn:Tev.snap 63 h _=_:=aFd he hg hu 61 _ rfl;refine⟨false,false,?_⟩;simp only[Tev.conv,depth,cW,bM,fE,↓hsn,go_sem,seval]
theorem TX(f:Nat->Int)(j:Nat):(List.range (j+1)).map f=(List.range j).map f++[f j]:=by simp[List.range_succ]
theorem LF{k:aA}{ds:List Val}{p:dK}(hx:cL k ds=0)(h:o7 k ds p=true)(at_:Int):rI p.pk (eZ k p.P at_):=by
 intro q hq;obtain⟨w,hw,rfl⟩:=List.mem_map.1 hq;have hfl:=aAq hx h at_ w hw;simp only[o7,aF,aR,eA,eJ]at h;obtain⟨⟨⟨⟨b1,b2⟩,b3⟩,b4⟩,b5⟩:=h;obtain⟨_,hsl,_⟩:=nP (ds:=ds) (cA (cD hx).1);obtain⟨u,u1,u2,u3⟩:=eE.1 hw;have hl:=(cJ.1 u2).1;simp only[fQ,aF,eA,eJ]at u3;have:=zV (sz:=bK k ds) (sp:=aD k) (pk:=p.pk) p.P 0 w.toNat b5 (by omega);rw[bF]at this;have hs:¬(plc (aD k) w.toNat).1 = -2:=by rw[FU u2];exact u3.1.1
 simp only[okP,if_neg hs,aF,aR]at this;have:=qD hx w.toNat;omega
set_option maxRecDepth 100000 in
set_option maxHeartbeats 8000000 in
theorem c680(hf:pg.fs 680=some JZ)(h694:pg.fs 694=some DI)(k:aA)(h677:Ret pg 677 [k.av] (.fn 694 [.fp k.av]))(nl cl:Bool)(ds:List Val)(p:dK)(h676:Ret pg 676 [k.av,p.av,.sl nl (ds.map Val.av) cl] (.int .i64 (oZ k ds p)))
  (h11:∀at_:Int,bQ pg 11 [k.av,.int .i64 at_] (kL k at_)) (g:Nat) (cs:List AV) (hcs:treeL cs=true) (F:List Sp->Int)
  (hbs:∀e n,jU 0 33 (.rf 29 e 0 n n::cs)=2228224) (hbn:∀nl cl,jU 0 33 (.sl nl [] cl::cs)=2228224)
  (hF:0<=p.pk->p.pk<=1000000->∀(h:Hp)(v:AV)(es:List Sp),pV h=true->Own h 29 2 true v (es.map bO)->es.length<=big->rI p.pk es->jK pg g (v::cs) 2228224 h (P6 (.int .i64 (F es)) h)) :
  bQ pg 680 [k.av,p.av,.sl nl (ds.map Val.av) cl,.fn g cs] (rH k ds p F):=by
 have tlP:=j0 p.P;have hcb:AV.tree (.fn g cs)=true:=by simpa[AV.tree] using hcs
 rw[aA.avc]at h676;rw[dK.avc]at h676;unfold rH;by_cases hx:oZ k ds p=0
 case neg=>
  have b0:decide (oZ k ds p=0)=false:=by simp[hx]
  simp only[if_neg hx];rw[aA.avc,dK.avc];refine bQ.ofX hf ?_;unfold JZ;refine Wk ?_;refine aB h676 ?_;simp only[b0,go_sem,seval]
 simp only[if_pos hx];rw[hx]at h676;have hcx:cL k ds=0:=by by_cases h:cL k ds=0;exact h;rw[oZ,if_neg h]at hx;exact absurd hx h
 have hfb:o7 k ds p=true:=by rw[oZ,if_pos hcx]at hx;cases hb:o7 k ds p;rw[hb]at hx;simp at hx;rfl
 have hgood:=LF hcx hfb;have hc:=(cD hcx).1;have ok:=cA hc;obtain⟨_,hsl,hzl⟩:=nP (ds:=ds) ok;simp only[o7,aF,aR,eA,eJ]at hfb;obtain⟨⟨⟨⟨b1,b2⟩,b3⟩,b4⟩,b5⟩:=hfb;have hF:=hF (by omega) (by omega);have hPV:p.P.length=k.aSe.es.length:=by omega
 have hPb:=p.bP;have hLb:=k.aSf.ok;have hll:∀at_,(cC at_ (aD k)).length<=big:=λat_=>by have:=(gO at_ _ (aD k) rfl).2;omega
 rw[aA.avc,dK.avc];refine bQ.ofH (jK.ofX hf ?_);unfold JZ;rw[aA.avc]at h677;simp only[hcb,go_sem,seval];refine aB h676 (Wk ?_);refine aB h677 (Wk ?_)
 refine KT h694 k hc h11 (by rw[aA.avc];rfl) (λj hp=>pV hp=true/\hp.get 1=some (0,.blk k.cells 6 true true false)/\hp.get 5=some (0,.blk p.cells 3 true true false)/\hp.get 9=some (0,.blk [.fn g cs] 1 false true false) /\
  ∃v,hp.get 17=some (0,.blk [v] 1 false true false)/\Own hp 37 1 false v (((List.range j).map fun(i:Nat)=>F (eZ k p.P ((i:Int)-1))).map aH)) ?_ ?_ ?_ ?_
 rintro j hp e0 o0 ⟨ga,g1,g5,g9,v,g17,ho⟩;have hh:∀q,q≠25->(hp.put 25 e0 o0).get q=hp.get q:=λq hq=>by rw[aI,if_neg (Ne.symm hq)]
 exact⟨kU ga,(hh _ (by decide)).trans g1,(hh _ (by decide)).trans g5,(hh _ (by decide)).trans g9,v,(hh _ (by decide)).trans g17,ho.mono (hh _ (by decide))⟩;exact⟨by rfl,by simp only[aI,go_sem,seval];rfl,by simp only[aI,go_sem,seval];rfl,by simp only[aI,go_sem,seval],.sl true [] true,by simp only[aI,go_sem,seval],Own.nil _ _ _ _ _ _ rfl⟩;intro j n3 z3 hj hp;have hgd:=hgood ((j:Int)-1);have hlb:=hll ((j:Int)-1);have hsucc:=TX (fun(i:Nat)=>F (eZ k p.P ((i:Int)-1))) j;have hacc:((List.range j).map fun(i:Nat)=>F (eZ k p.P ((i:Int)-1))).length=j:=by simp
 have hlv:∀w∈cC ((j:Int)-1) (aD k),0<=w/\w.toNat<p.P.length:=λw hw=>by obtain⟨u,u1,u2,u3⟩:=eE.1 hw;have:=(cJ.1 u2).1;exact⟨u1,by omega⟩
 simp only[eZ]at hsucc hgd ⊢;have hlvj:cC ((j:Int)-1) (aD k)=cC ((j:Int)-1) (aD k):=rfl;generalize hlvd:cC ((j:Int)-1) (aD k)=lv at hlvj hgd hlb hlv ⊢;clear hlvj hsucc hacc;generalize hat:(j:Int)-1=at_ at hlvd ⊢;refine Wk ?_;rintro hp1 ⟨ga,g1,g5,g9,v,g17,ho⟩;have hlv2:(lv.map λw=>plc p.P w.toNat).length<=big:=by simpa using hlb
 refine aJ lv (λd r env hp2=>∃v2,env=L7 (.pt 5 0 0) (.pt 9 0 0) (.pt 17 0 0) v2 (.sl n3 (lv.map aH) z3) (.int .i64 lv.length) (.int .i64 d.length)/\pV hp2=true/\(∀q,q≠29->hp2.get q=hp1.get q) /\
  Own hp2 29 2 true v2 ((d.map λw=>plc p.P w.toNat).map bO)) ?_ ?_ ?_
 exact⟨_,rfl,ga,λ_ _=>rfl,Own.nil _ _ _ _ _ _ rfl⟩;rintro env hp2 ⟨v2,rfl,ga2,hh,ho2⟩;have g1':=(hh 1 (by decide)).trans g1;have g5':=(hh 5 (by decide)).trans g5;have g9':=(hh 9 (by decide)).trans g9;have g17':=(hh 17 (by decide)).trans g17;have g25':=hh 25 (by decide);have hob:jU 0 33 (v2::cs)=2228224:=by
  rcases BM ho2 with ⟨_,nl',cl',rfl⟩|⟨e,rfl,_⟩
  exact hbn _ _;exact hbs _ _
 simp only[L6,L7,bG,g17',g9',go_sem,seval];refine aBf hob (hF hp2 v2 _ ga2 ho2 hlv2 hgd) ?_;rintro r h3 pa ⟨rfl,hq3⟩ hget hnot;have hn17:17 ∉ pa.map (·.k):=hnot 17 (hq3 17 (by decide) (by decide));have hk:∀q,q<2228224->q≠29->(dZ hp2 pa).get q=hp2.get q:=λq h1 h2=>(hget q).trans (hq3 q h1 h2);have ga3:=rS (pa:=pa) ga2;have hd:B7 (pa.map (·.k)) [17]=true:=by simp only[B7,eT];intro x hx;have:x≠17:=λe=>hn17 (e ▸ hx);simp[this]
 have hap:Eff.app hp2 (.all pa)=dZ hp2 pa:=rfl;rw[hap];generalize dZ hp2 pa=H3 at hk ga3 ⊢;clear hnot hget hap;refine Wk ?_;refine gR (kb:=0) (s:=37) (bytes:=8) (ho.mono ((hk 37 (by decide) (by decide)).trans (hh 37 (by decide)))) (El.ints _) (xs:=[.int .i64 (F (lv.map λw=>plc p.P w.toNat))]) (by intro z hz;simp at hz;subst hz;exact⟨rfl,rfl,rfl⟩) (by simp only[aM,List.length_range,List.length_singleton];simp only[big]at hLb;omega) (by decide) ?_;intro v' rd pa2 p1 hk1 hpa2;have ga4:pV (Eff.app H3 (.pat rd pa2))=true:=rS (pa:=pa2) ga3;have hh4:∀q,q≠37->q<2228224->q≠29->(Eff.app H3 (.pat rd pa2)).get q=hp2.get q:=λq h0 h1 h2=>(hk1 q h0).trans (hk q h1 h2);generalize Eff.app H3 (.pat rd pa2)=H4 at p1 ga4 hh4 ⊢;have k17:=(hh4 17 (by decide) (by decide) (by decide)).trans g17';obtain⟨z1,z2,z4⟩:=p1.one;simp only[k17,z1,z2,z4,go_sem,seval];have hfj:F (List.map (λw=>plc p.P w.toNat) (cC ((j:Int)-1) (aD k)))=F (lv.map λw=>plc p.P w.toNat):=by rw[hat,hlvd]
 refine⟨?_,(hh4 25 (by decide) (by decide) (by decide)).trans g25',kU ga4,(hh4 1 (by decide) (by decide) (by decide)).trans g1',(hh4 5 (by decide) (by decide) (by decide)).trans g5',(hh4 9 (by decide) (by decide) (by decide)).trans g9',v',rfl,?_⟩;simp only[i7,kC,R.apart,Eff.apart,hd];simp (config:={decide:=true}) [B7,R.uses,X.tmp];rw[List.map_append,List.map_append,List.map_singleton,List.map_singleton,hfj];exact p1.mono (by simp only[go_sem,seval]);rintro d x r env hp2 hes ⟨v2,rfl,ga2,hh,ho2⟩;obtain⟨hget',f1,f2,ew⟩:=dJ hes hlb;obtain⟨hx0,hxP⟩:=hlv x (by rw[hes];simp);obtain⟨u,rfl⟩:=jN hx0;rw[dU]at hxP;have lu:((u:Int)<(p.P.length:Int))=True:=aK (by omega);have hu0:(0<=(u:Int))=True:=aK (by omega);have hu':=FV hxP;have g5':=(hh 5 (by decide)).trans g5;simp only[dK.cells]at g5';have hdl:d.length<=big:=by have:=congrArg List.length hes;simp only[dC,List.length_cons]at this;omega
 simp only[L6,L7,f1,f2,hget',g5',lu,hu0,hu',go_sem,seval];refine gR (kb:=0) (s:=29) ho2 (El.spl _) (xs:=[bO (plc p.P u)]) (by intro z hz;simp at hz;subst hz;exact⟨rfl,rfl,rfl⟩) (by simp only[aM,List.length_singleton];simp only[big]at hdl;omega) (by decide) ?_;intro v' rd pa2 p1 hk1 hpa2;have ga4:pV (Eff.app hp2 (.pat rd pa2))=true:=rS (pa:=pa2) ga2;generalize Eff.app hp2 (.pat rd pa2)=H4 at p1 ga4 hk1 ⊢;simp only[ew,go_sem,seval];exact⟨v',rfl,ga4,λq hq=>(hk1 q hq).trans (hh q hq),by rw[List.map_append,List.map_append];exact p1⟩;rintro hp ⟨_,g1,g5,g9,v,g17,ho⟩;obtain⟨nl',cl',hcv⟩:=aAA ho (El.ints _) 0;simp only[g17,go_sem,seval];exact⟨_,hcv,nl',cl',rfl⟩
end
end
section
theorem wW(k:aA)(P:List Sp)(at_:Int)(a b:Nat):gG k P at_ a b=gG k P at_ b a:=by simp only[gG,kR (plc P a) (plc P b),Bool.or_assoc,Bool.or_comm (qC k P at_ a b)]
theorem IY{k:aA}{P:List Sp}{at_ a b:Int}:YH k P at_ a b=[]↔gG k P at_ a.toNat b.toNat=true:=by rw[YH];cases gG k P at_ a.toNat b.toNat<;>simp
theorem yU(k:aA)(P:List Sp)(at_:Int):∀(l d:List Int),mU k P at_ d l=true↔(∀w∈d,∀v∈l,gG k P at_ v.toNat w.toNat=true)/\aDc k P at_ l=[]
 |[],d=>by simp[mU,aDc]
 |v::r,d=>by
  have ih:=yU k P at_ r (d++[v]);have hf:r.flatMap (YH k P at_ v)=[]↔∀u∈r,gG k P at_ u.toNat v.toNat=true:=by rw[List.flatMap_eq_nil_iff];constructor;intro h u hu;rw[wW];exact IY.1 (h u hu);intro h u hu;rw[IY,wW];exact h u hu
  rw[mU,aF,ih,aDc,List.append_eq_nil_iff,hf,eT];constructor;rintro⟨h1,h2,h3⟩;refine⟨λw hw u hu=>?_,λu hu=>h2 v (by simp) u hu,h3⟩;rcases dA.1 hu with rfl|hu;exact h1 w hw;exact h2 w (by simp[hw]) u hu;rintro⟨h1,h2,h3⟩;refine⟨λw hw=>h1 w hw v (by simp),λw hw u hu=>?_,h3⟩;rcases jM.1 hw with hw|hw;exact h1 w hw u (by simp[hu]);obtain rfl:w=v:=by simpa using hw
  exact h2 u hu
theorem F0(k:aA)(P:List Sp):∀(R:List Nat)(n:Nat),lK k P n R=true↔aFO k P R=[]
 |[],_=>by simp[lK,aFO]
 |j::R,n=>by have ih:=F0 k P R (n+1);rw[lK,aF,ih,yU];simp[aFO]
theorem aFb(k:aA)(ds:List Val)(p:dK):pB k ds p=(decide (oZ k ds p=0)&&decide (aMb k p.P=[])):=by
 have h:=F0 k p.P (List.range (k.aSf.es.length+2)) 0;have hl:lK k p.P 0 (List.range (k.aSf.es.length+2))=decide (aMb k p.P=[]):=by rw[Bool.eq_iff_iff,h,aR];rfl
 have hs:pB k ds p=(decide (cL k ds=0)&&o7 k ds p&&lK k p.P 0 (List.range (k.aSf.es.length+2))):=by simp only[pB,o7,Bool.and_assoc]
 rw[hs,hl];congr 1;rw[oZ];by_cases hx:cL k ds=0;rw[if_pos hx];cases o7 k ds p<;>simp[hx];rw[if_neg hx];simp[hx]
section
variable{pg:Pg}
end
end
section
def pO(p:Sp)(n:Nat):Int:=mxI 0 ((if (n:Int)<p.1+p.2 then (n:Int) else p.1+p.2)-p.1)
theorem KW:∀n:Nat,fM [] n=n
 |0=>rfl
 |n+1=>by rw[fM,KW n];simp[uJ]
theorem KV(l:List Sp):∀n:Nat,0<=fM l n
 |0=>Int.le_refl _
 |n+1=>by have:=KV l n;rw[fM];split<;>omega
theorem QX(p:Sp)(l:List Sp)(x:Nat):uJ (p::l) x=(decide (p.1<=(x:Int))&&decide ((x:Int)<p.1+p.2)||uJ l x):=by simp[uJ]
theorem CP{p:Sp}{l:List Sp}(h0:0<=p.1):∀n:Nat,fM l n<=fM (p::l) n+pO p n
 |0=>by have:=(YP 0 ((if ((0:Nat):Int)<p.1+p.2 then ((0:Nat):Int) else p.1+p.2)-p.1)).1;simp only[fM,pO];omega
 |n+1=>by
  have ih:=CP (l:=l) h0 n;rw[fM,fM,QX];by_cases h1:p.1<=(n:Int)
  ·by_cases h2:(n:Int)<p.1+p.2
   ·have:pO p (n+1)=pO p n+1:=by
     simp only[pO,mxI]
     repeat' split
     all_goals omega
    simp only[decide_eq_true h1,decide_eq_true h2,Bool.and_self,Bool.true_or,aN];split<;>omega
   ·have:pO p (n+1)=pO p n:=by
     simp only[pO,mxI]
     repeat' split
     all_goals omega
    simp only[decide_eq_false h2,gD,Bool.false_or];split<;>omega
  ·have:pO p (n+1)=pO p n:=by
    simp only[pO,mxI]
    repeat' split
    all_goals omega
   simp only[decide_eq_false h1,d9,Bool.false_or];split<;>omega
theorem CQ{p:Sp}{l:List Sp}(h0:0<=p.1)(hm:∀q∈l,fL p q=false):∀n:Nat,fM l n=fM (p::l) n+pO p n
 |0=>by
  simp only[fM,pO,mxI]
  repeat' split
  all_goals omega
 |n+1=>by
  have ih:=CQ h0 hm n;rw[fM,fM,QX];by_cases h1:p.1<=(n:Int)
  ·by_cases h2:(n:Int)<p.1+p.2
   ·have hc:uJ l n=false:=AJ (λq hq ⟨q1,q2⟩=>by
     have h3:=hm q hq;have:fL p q=true:=gF.2 ⟨by omega,by omega,by omega,by omega⟩;rw[this]at h3;cases h3)
    have:pO p (n+1)=pO p n+1:=by
     simp only[pO,mxI]
     repeat' split
     all_goals omega
    simp only[decide_eq_true h1,decide_eq_true h2,hc,Bool.and_self,Bool.true_or,aN];simp only[bR,aL];omega
   ·have:pO p (n+1)=pO p n:=by
     simp only[pO,mxI]
     repeat' split
     all_goals omega
    simp only[decide_eq_false h2,gD,Bool.false_or];split<;>omega
  ·have:pO p (n+1)=pO p n:=by
    simp only[pO,mxI]
    repeat' split
    all_goals omega
   simp only[decide_eq_false h1,d9,Bool.false_or];split<;>omega
theorem Y5{p:Sp}{n:Nat}(h0:0<=p.2)(h1:p.1+p.2<=(n:Int)):pO p n=p.2:=by
 simp only[pO,mxI]
 repeat' split
 all_goals omega
theorem X4{pk:Int}(h0:0<=pk):∀l:List Sp,rI pk l->pk-S2 l<=fM l pk.toNat
 |[],_=>by rw[KW,S2];omega
 |p::r,h=>by obtain⟨p1,p2,p3⟩:=h p (by simp);have ih:=X4 h0 r (λq hq=>h q (by simp[hq]));have h2:=CP (p:=p) (l:=r) p1 pk.toNat;have h3:=Y5 (p:=p) (n:=pk.toNat) p2 (by omega);rw[S2];omega
theorem EQ{pk:Int}(h0:0<=pk):∀l:List Sp,rI pk l->l.Pairwise (λp q=>fL p q=false)->fM l pk.toNat=pk-S2 l
 |[],_,_=>by rw[KW,S2];omega
 |p::r,h,hm=>by rw[List.pairwise_cons]at hm;obtain⟨p1,p2,p3⟩:=h p (by simp);have ih:=EQ h0 r (λq hq=>h q (by simp[hq])) hm.2;have h2:=CQ (p:=p) (l:=r) p1 hm.1 pk.toNat;have h3:=Y5 (p:=p) (n:=pk.toNat) p2 (by omega);rw[S2];omega
theorem OJ{l l':List Sp}(h:∀p∈l',p∈l):∀n:Nat,fM l n<=fM l' n
 |0=>Int.le_refl _
 |n+1=>by have ih:=OJ h n;rw[fM,fM];cases hc:uJ l' n;simp only[bR,aL];split<;>omega;obtain⟨p,hp,h1⟩:=tD.1 hc;have:uJ l n=true:=tD.2 ⟨p,h p hp,h1⟩;simp only[this,aN];omega
theorem D8{α : Type}(f : α -> Int):∀(l:List α)(m:Int),let r:=l.foldl (λn q=>mxI n (f q)) m;m<=r/\(∀q∈l,f q<=r)/\(r=m\/∃q∈l,f q=r)
 |[],m=>⟨Int.le_refl m,by simp,.inl rfl⟩
 |q::r,m=>by
  obtain⟨h1,h2,h3⟩:=D8 f r (mxI m (f q));have hl:=YP m (f q);simp only[List.foldl_cons];refine⟨by omega,?_,?_⟩;intro x hx;rcases dA.1 hx with rfl|hx;omega;exact h2 x hx;rcases h3 with h3|⟨x,hx,h3⟩
  rcases aBX m (f q) with e|e;left;rw[h3,e];right;exact⟨q,by simp,by rw[h3,e]⟩;right;exact⟨x,by simp[hx],h3⟩
theorem S4(l:List Sp):0<=kM l/\(∀q∈l,q.1+q.2<=kM l)/\(kM l=0\/∃q∈l,q.1+q.2=kM l):=D8 (λq:Sp=>q.1+q.2) l 0
theorem S3{l:List Sp}{pk:Int}(h0:0<=pk)(hg:rI pk l):kM l<=pk:=by
 rcases (S4 l).2.2 with h|⟨q,hq,h⟩
 omega;have:=hg q hq;omega
theorem aEV{l:List Sp}{pk:Int}(h0:0<=pk)(hg:rI pk l):pk-kM l<=fM l pk.toNat:=by
 have h1:=S4 l;have h2:=S3 h0 hg
 have h3:=ES (l:=l) h1.1 h2 (λx hx _=>AJ (λq hq hc=>by
  have:=h1.2.1 q hq;omega))
 have h4:=KV l (kM l).toNat;omega
theorem IW{k:aA}{P:List Sp}{at_:Int}:∀(l d:List Int),mU k P at_ d l=true->l.Pairwise (λv w=>gG k P at_ v.toNat w.toNat=true)
 |[],_,_=>List.Pairwise.nil
 |v::r,d,h=>by rw[mU,aF]at h;rw[List.pairwise_cons];refine⟨λu hu=>?_,IW r _ h.2⟩;have:=((yU k P at_ r (d++[v])).1 h.2).1 v (by simp) u hu;rw[wW];exact this
theorem I7{k:aA}{P:List Sp}:∀(R:List Nat)(n:Nat),lK k P n R=true->∀j∈R,mU k P ((j:Int)-1) [] (cC ((j:Int)-1) (aD k))=true
 |[],_,_,j,hj=>by simp at hj
 |i::R,n,h,j,hj=>by rw[lK,aF]at h;rcases dA.1 hj with rfl|hj;exact h.1;exact I7 R _ h.2 j hj
theorem JK(f:Nat->Bool){v:Nat}(hv:f v=true):∀(n i:Nat),i<=v->v<i+n->0<=gQ f i n
 |0,i,h1,h2=>by omega
 |n+1,i,h1,h2=>by rw[gQ];split;omega;rename_i hi;have:i≠v:=λe=>hi (by rw[e];exact hv);exact JK f hv n (i+1) (by omega) (by omega)
theorem OO{k:aA}{P:List Sp}{at_:Int}{v w:Nat}(h:qC k P at_ v w=true):∃j:Nat,at_=j/\j<k.aSf.es.length/\0<=d7 k j/\∀q,k.aSf.es[j]?=some q->(v:Int)=q.value:=by
 simp only[qC,aF,aR,yW]at h;obtain⟨⟨⟨⟨h1,h2⟩,h3⟩,h4⟩,h5,h6⟩:=h;refine⟨at_.toNat,by omega,by omega,?_,?_⟩;have hw:w<k.aSe.es.length:=by by_cases hw:w<k.aSe.es.length;exact hw;rw[v6 (by omega)]at h6;cases h6
 rw[d7,show ((at_.toNat:Nat):Int)=at_ from by omega];exact JK (λv=>kS k at_ (v:Int)) h6 _ 0 (Nat.zero_le _) (by omega);intro q hq;rw[wY,hq]at h3;exact aO h3
theorem PR{k:aA}{P:List Sp}{at_:Int}{v w:Nat}(h:gG k P at_ v w=true)(hno:∀j:Nat,at_=j->j<k.aSf.es.length->0<=d7 k j->∃q,k.aSf.es[j]?=some q/\(v:Int)≠q.value/\(w:Int)≠q.value):fL (plc P v) (plc P w)=false:=by simp only[gG,Bool.or_eq_true,eA]at h;rcases h with (h|h)|h;exact h;obtain⟨j,a,b,c,d⟩:=OO h;obtain⟨q,hq,e,_⟩:=hno j a b c;exact absurd (d q hq) e;obtain⟨j,a,b,c,d⟩:=OO h;obtain⟨q,hq,_,e⟩:=hno j a b c;exact absurd (d q hq) e
section
variable{k:aA}{ds:List Val}{p:dK}
theorem zC(hx:cL k ds=0)(hl:p.P.length=k.aSe.es.length)(ho:rY (bK k ds) (aD k) p.pk 0 p.P=true){at_:Int}{v:Int}(hv:v∈cC at_ (aD k)) :
  (plI p.P v).2=bI (bK k ds) v.toNat/\0<=(plI p.P v).2/\(plI p.P v).2<=4096/\0<=(plI p.P v).1/\(plI p.P v).1+(plI p.P v).2<=p.pk:=by
 have ok:=cA (cD hx).1;obtain⟨_,hsl,_⟩:=nP (ds:=ds) ok;obtain⟨a,v0,ha,hla⟩:=eE.1 hv;simp only[fQ,aF,eA,eJ,aR]at hla;have hlt:=(cJ.1 ha).1;have h1:=zV p.P 0 v.toNat ho (by omega);have h2:plc (aD k) v.toNat=a:=by rw[plc,fY,ha];rfl
 rw[bF,okP,h2,if_neg hla.1.1]at h1;simp only[aF,aR]at h1;have h3:=qD hx v.toNat;simp only[plI];omega
theorem JG(hx:cL k ds=0)(hl:p.P.length=k.aSe.es.length)(ho:rY (bK k ds) (aD k) p.pk 0 p.P=true){at_:Int}{l:List Int}(hv:∀v∈l,v∈cC at_ (aD k)):rI p.pk (l.map (plI p.P)):=by intro q hq;obtain⟨v,h,rfl⟩:=List.mem_map.1 hq;have:=zC hx hl ho (hv v h);omega
theorem aAp(hx:cL k ds=0)(hn:k.aSe.es.length<=20)(hl:p.P.length=k.aSe.es.length)(ho:rY (bK k ds) (aD k) p.pk 0 p.P=true)(j:Nat) :
  kI j (mP k ds) 0=S2 ((cC ((j:Int)-1) (aD k)).map (plI p.P)):=by
 have ok:=cA (cD hx).1;obtain⟨h1,h2,h3⟩:=nP (ds:=ds) ok;obtain⟨p1,p2⟩:=zL (ds:=ds) ok;have:=wA (bK k ds) j 0 _ (mP k ds) rfl p2;rw[p1]at this;rw[<-this];obtain⟨_,hlen⟩:=gO ((j:Int)-1) _ (aD k) rfl;rw[LQ (bK k ds) p.P _ 0 (Int.le_refl 0) (by omega) (λv hv=>?_),Int.zero_add];have:=zC hx hl ho hv;refine⟨?_,this.2.1,this.2.2.1⟩;rw[this.1,bI,fY]
theorem SP(hx:cL k ds=0)(hf:qT k=true)(hs:pB k ds p=true)(j:Nat)(hj:j<k.aSf.es.length+2) :
  oW k ds j<=p.pk-fM (eZ k p.P ((j:Int)-1)) p.pk.toNat/\p.pk-fM (eZ k p.P ((j:Int)-1)) p.pk.toNat<=kI j (mP k ds) 0 /\
  p.pk-fM (eZ k p.P ((j:Int)-1)) p.pk.toNat<=kM (eZ k p.P ((j:Int)-1))/\kM (eZ k p.P ((j:Int)-1))<=p.pk:=by
 have ok:=cA (cD hx).1;obtain⟨hn,_⟩:=s7 hf;simp only[pB,aF,aR,eA,eJ]at hs;obtain⟨⟨⟨⟨⟨⟨_,s1⟩,s2⟩,s3⟩,s4⟩,s5⟩,s6⟩:=hs;have hl:p.P.length=k.aSe.es.length:=by omega
 have hpw:=IW _ _ (I7 _ _ s6 j (List.mem_range.2 hj));have hneed:=aAp hx hn hl s5 j;have e:eZ k p.P ((j:Int)-1)=(cC ((j:Int)-1) (aD k)).map (plI p.P):=rfl;rw[e,hneed];have hnd:=(gO ((j:Int)-1) _ (aD k) rfl).1
 have hmem0:∀v∈cC ((j:Int)-1) (aD k),0<=v:=λv hv=>by obtain⟨_,v0,_⟩:=eE.1 hv;exact v0
 have hg:=JG hx hl s5 (at_:=(j:Int)-1) (l:=cC ((j:Int)-1) (aD k)) (λv hv=>hv);have g0:0<=p.pk:=by omega
 have u1:=X4 g0 _ hg;have u2:=aEV g0 hg;have u3:=S3 g0 hg;refine⟨?_,by omega,by omega,u3⟩;rw[oW];split;rename_i hc;obtain⟨i,rfl⟩:∃i,j=i+1:=⟨j-1,by omega⟩
 rw[Nat.add_sub_cancel]at hc ⊢;have hlt:i<k.aSf.es.length:=by omega
 have hq:k.aSf.es[i]?=some k.aSf.es[i]:=aW hlt;generalize hqq:k.aSf.es[i]=q at hq;have hes:k.aSf.es=k.aSf.es.take i++q::k.aSf.es.drop (i+1):=by rw[<-hqq,<-i8 hlt,List.take_append_drop]
 have hlen:(k.aSf.es.take i).length=i:=by simp;omega
 have hch:=uK ok ds hes (by rw[hlen];exact hc.2.2);rw[hlen]at hch;obtain⟨c,sc,u,e1,hcv,hsc,hu,hu1,hs1,hs2,hsz⟩:=hch;have hq0:=(d5 (ok.ker _ _ _ hes)).1;have hi0:=vW ok;have hub:=qE k u (List.mem_of_getElem? hu);have hmem:(q.value.toNat:Int)∈cC ((i+1:Nat)-1:Int) (aD k):=by refine eE.2 ⟨u,by omega,by rw[dU];exact hu,?_⟩;simp only[fQ,aF,eA,eJ,aR];omega
 rw[hq,hneed];simp only;have hperm:=List.perm_cons_erase hmem;have hS:=OG (hperm.map (plI p.P));have hsz2:=(zC hx hl s5 hmem).1;rw[dU]at hsz2;rw[List.map_cons,S2,hsz2]at hS;have hge:rI p.pk (((cC ((i+1:Nat)-1:Int) (aD k)).erase (q.value.toNat:Int)).map (plI p.P)):=JG hx hl s5 (at_:=((i+1:Nat)-1:Int)) (λv hv=>List.mem_of_mem_erase hv)
 have hpe:(((cC ((i+1:Nat)-1:Int) (aD k)).erase (q.value.toNat:Int)).map (plI p.P)).Pairwise (λa b=>fL a b=false):=by
  rw[List.pairwise_map];refine List.Pairwise.imp_of_mem ?_ (hpw.sublist List.erase_sublist);intro v w hv hw hap;refine PR hap (λm hm _ _=>?_);obtain rfl:m=i:=by omega
  refine⟨q,hq,?_,?_⟩;have h1:=(hnd.mem_erase_iff.1 hv).1;have h2:=hmem0 v (List.mem_of_mem_erase hv);omega;have h1:=(hnd.mem_erase_iff.1 hw).1;have h2:=hmem0 w (List.mem_of_mem_erase hw);omega
 have u4:=EQ g0 _ hge hpe
 have u5:=OJ (l:=(cC ((i+1:Nat)-1:Int) (aD k)).map (plI p.P)) (l':=((cC ((i+1:Nat)-1:Int) (aD k)).erase (q.value.toNat:Int)).map (plI p.P)) (λx hx=>by
  obtain⟨v,hv,rfl⟩:=List.mem_map.1 hx;exact List.mem_map.2 ⟨v,List.mem_of_mem_erase hv,rfl⟩) p.pk.toNat
 omega;rename_i hc
 have hpe:((cC ((j:Int)-1) (aD k)).map (plI p.P)).Pairwise (λa b=>fL a b=false):=by rw[List.pairwise_map];refine List.Pairwise.imp_of_mem ?_ hpw;intro v w hv hw hap;refine PR hap (λm hm hml hch=>?_);exfalso;exact hc ⟨by omega,by omega,by rw[show j-1=m from by omega];exact hch⟩
 have u4:=EQ g0 _ hg hpe;rw[hneed];omega
end
def aLT(k:aA)(ds:List Val):List Int:=(List.range (k.aSf.es.length+2)).map (oW k ds)
def wC(k:aA)(ds:List Val):Int:=(aLT k ds).foldl mxI 0
theorem aCi{k:aA}{ds:List Val}{p:dK}(hx:cL k ds=0)(hf:qT k=true)(hs:pB k ds p=true):wC k ds<=p.pk:=by
 have h:=D8 (λq:Int=>q) (aLT k ds) 0;rcases h.2.2 with h|⟨q,hq,h⟩
 have h0:wC k ds=0:=h;have:0<=p.pk:=by simp only[pB,aF,aR,eA,eJ]at hs;omega
 omega;have h0:q=wC k ds:=h;obtain⟨j,hj,rfl⟩:=List.mem_map.1 hq;have hj:=List.mem_range.1 hj;have h1:=(SP hx hf hs j hj).1;have h2:=KV (eZ k p.P ((j:Int)-1)) p.pk.toNat;omega
theorem aCe{k:aA}{ds:List Val}(hx:cL k ds=0)(hf:qT k=true)(hm:(eQ k (bK k ds) k.aSf.es).2<=1000000) :
  (kA k (eQ k (bK k ds) k.aSf.es).1 kM).foldl mxI 0=(eQ k (bK k ds) k.aSf.es).2:=by
 have ok:=cA (cD hx).1;have hz:=qD hx;obtain⟨hn,_⟩:=s7 hf;have hi:k.aSg.toNat<=k.aSe.es.length:=by have:=ok.out;simp only[bJ,aF,aR]at this;obtain⟨_,⟨⟨⟨⟨⟨⟨_,_⟩,hi0⟩,_⟩,hiV⟩,_⟩,_⟩,_⟩:=this;omega
 have h:=D7 ok ds hz hn hi;have PP:=aBJ hx hf;generalize eQ k (bK k ds) k.aSf.es=s at *;have hgood:∀at_:Int,rI s.2 (eZ k s.1 at_):=by intro at_ q hq;obtain⟨v,hv,rfl⟩:=List.mem_map.1 hq;have:=oC hz h hv;simp only[plI]at this;omega
 obtain⟨f1,f2,f3⟩:=D8 (λq:Int=>q) (kA k s.1 kM) 0;have hfold:(kA k s.1 kM).foldl (λn q=>mxI n ((λq:Int=>q) q)) 0=(kA k s.1 kM).foldl mxI 0:=rfl;rw[hfold]at f1 f2 f3;have hle:(kA k s.1 kM).foldl mxI 0<=s.2:=by
  rcases f3 with h1|⟨q,hq,h1⟩
  rw[h1];exact h.nn;rw[<-h1];obtain⟨j,_,rfl⟩:=List.mem_map.1 hq;exact S3 h.nn (hgood _)
 rcases PP.en with h0|⟨v,hv,he⟩
 omega;by_cases hD:Bef k k.aSf.es.length v;obtain⟨a,ha,ha2,ha3⟩:=hD;have hpl:=h.pl v ⟨a,ha,ha2,ha3⟩;have hpe:=h.pe v ⟨a,ha,ha2,ha3⟩;have hzv:=hz v;have hen:en (plc s.1 v)=(plc s.1 v).1+(plc s.1 v).2:=aU (by omega) (by omega);have ha1:=qE k a (List.mem_of_getElem? ha);have hm1 : -1<=a.1:=by
  rcases oE (xL ha) with h|⟨h,_⟩|⟨j,x,_,_,h3⟩
  exact absurd h ha2;omega;omega
 have hin:kM (eZ k s.1 (((a.1+1).toNat:Int)-1))∈kA k s.1 kM:=List.mem_map.2 ⟨(a.1+1).toNat,List.mem_range.2 (by omega),rfl⟩;have h1:=f2 _ hin;have hmem:plc s.1 v∈eZ k s.1 (((a.1+1).toNat:Int)-1):=by refine List.mem_map.2 ⟨(v:Int),eE.2 ⟨a,by omega,by rw[dU];exact ha,?_⟩,by rw[dU]⟩;simp only[fQ,aF,eA,eJ,aR];omega
 have h2:=(S4 (eZ k s.1 (((a.1+1).toNat:Int)-1))).2.1 _ hmem;omega;rw[h.no v hD]at he;have:en (-1,0) = -1:=by decide
 have:=h.nn;omega
end
section
structure CodeAc(pg:Pg):Prop where
 f11:pg.fs 11=some aEk
 f16:pg.fs 16=some aEi
 f32:pg.fs 32=some aDV
 f33:pg.fs 33=some aDU
 f52:pg.fs 52=some aDM
 f53:pg.fs 53=some VY
 f260:pg.fs 260=some RO
 f264:pg.fs 264=some aEb
 f272:pg.fs 272=some J4
 f273:pg.fs 273=some RJ
 f274:pg.fs 274=some J3
 f275:pg.fs 275=some RI
 f292:pg.fs 292=some J2
 f293:pg.fs 293=some Y7
 f316:pg.fs 316=some RF
 f663:pg.fs 663=some RB
 f676:pg.fs 676=some G0
 f677:pg.fs 677=some Q8
 f684:pg.fs 684=some Q5
 f694:pg.fs 694=some DI
section
variable{pg:Pg}
theorem YQ{k:aA}(hk:KOK k):∀q∈k.aSf.es,q.body.ok/\q.index.ok/\q.body.sz+q.index.sz+1<=big:=λq hq=>by obtain⟨h1,h2,_,_⟩:=hk.ks q hq;have:=hk.sz q hq;exact⟨h1,h2,by omega⟩
theorem aKf(C:Go.Tev.Code pg)(M:CodeAc pg)(A:Ora pg)(k:aA)(hk:KOK k)(nl cl:Bool)(ds:List Val)(hb:ds.length<=big) :
  bQ pg 9 [k.av] (lI k)/\Ret pg 16 [k.av,.sl nl (ds.map Val.av) cl] (iL k ds)/\(∀at_:Int,bQ pg 11 [k.av,.int .i64 at_] (kL k at_))/\(∀p:dK,Ret pg 676 [k.av,p.av,.sl nl (ds.map Val.av) cl] (.int .i64 (oZ k ds p))) /\
  (gT k->∀(nl cl:Bool)(at_ v:Nat),at_<k.aSf.es.length->v<k.aSe.es.length->Ret pg 275 [k.av,.sl nl ((aD k).map bO) cl,.int .i64 at_,.int .i64 v] (.bool (kS k at_ v))):=by
 have B:=ZC A C.f57 C.f91 C.f126 C.f108 C.f94 C.f132 C.f133 C.f134 C.f171;have h51:∀l:Lin,Ret pg 51 [l.av] (.bool (fU l)):=c51 C.f51 C.f89 B.name;have h9:=aRZ C A k hk;have h28:=aEE C A k hk.nl hk.ks;have h32:=λl nl cl ds hb=>aQL M.f32 h51 M.f52 M.f53 l nl cl ds hb;have h33:=λt=>aQK M.f33 h32 t nl cl ds hb;have h16:=aRo M.f16 k h9 nl cl ds hb (λl=>h32 l nl cl ds hb) h33
 exact⟨h9,h16,λat_=>c11 M.f11 k h9 at_,λp=>c676 M.f676 k nl cl ds p (c684 M.f684 k h28) h16 h9,
  λok nl cl at_ v h1 h2=>c275 M.f275 (c65 C.f65 (c104 C.f104 C.f67 C.f142 C.f106)) (λp hp hs=>c48 (HI A) C.f48 C.f74 p hp hs) (λnl cl es hb v=>c293 M.f293 M.f316 nl cl es hb v)
   (λv rank p hp=>c260 A M.f260 M.f272 M.f273 M.f274 M.f292 C.f108 v rank p hp) k ok (YQ hk) nl cl at_ v h1 h2⟩
end
end
end Go.Tev
